/- The walk of CellsOnce. -/
import Derived.Test.YtdmadnoijhmbcaaHead12
import Derived.Test.YtdmadnoijhmbcaaRVld12
import Derived.Test.YtdmadnoijhmbcaaLaw12p
import Derived.Test.YtdmadnoijhmbcaaOpen12
namespace Go.Proofs.Ytdmadnoijhmbcaa
open Go.RowKit

/-- A step. -/
structure St where
  k : Int
  s : Int
  o : Int
  p : Int
  f : Int
def St.cells (d : St) : List Value := [.int .u8 d.k, .int .i64 d.s, .int .i64 d.o, .int .i64 d.p, .int .i64 d.f]
def stL : Lay St := ⟨St.cells, 5, by decide, fun _ => rfl, fun a u h => by simp only [St.cells, List.mem_cons, List.not_mem_nil, or_false] at h; rcases h with rfl | rfl | rfl | rfl | rfl <;> rfl⟩
theorem st_of {cs : List Value} (h : okCells [some .u8, some .i64, some .i64, some .i64, some .i64] cs) : ∃ d : St, cs = d.cells ∧ (0 ≤ d.k ∧ d.k ≤ 255) := by
  simp only [okCells] at h
  obtain ⟨a, _, rfl, ha, b, _, rfl, _, c, _, rfl, _, d, _, rfl, _, e, _, rfl, _, rfl⟩ := h
  have h1 : (0 : Int) ≤ a := ha.1
  have h2 : a ≤ 255 := ha.2
  exact ⟨⟨a, b, c, d, e⟩, rfl, h1, h2⟩
theorem SlT.atS {w w' : World} {p : Option Addr} {n cap : Nat} {ls : List St} (h : SlT stL w (.slice p n cap) ls) (bel : Below w.heap.size w w') {i : Nat} (hi : i < ls.length) :
    ∃ a b off, ls[i]? = some a ∧ p = some ⟨b, off, none⟩ ∧ b < w'.heap.size ∧ b < w.heap.size ∧ w'.cell? ⟨b, off + i * 5, none⟩ = some (.int .u8 a.k) ∧ w'.cell? ⟨b, off + i * 5 + 1, none⟩ = some (.int .i64 a.s) ∧ w'.cell? ⟨b, off + i * 5 + 2, none⟩ = some (.int .i64 a.o) ∧ w'.cell? ⟨b, off + i * 5 + 3, none⟩ = some (.int .i64 a.p) ∧ w'.cell? ⟨b, off + i * 5 + 4, none⟩ = some (.int .i64 a.f) := by
  obtain ⟨a, b, off, h1, h2, h3, h4, h5⟩ := h.at bel hi
  exact ⟨a, b, off, h1, h2, h3, h4, h5 0 _ rfl, h5 1 _ rfl, h5 2 _ rfl, h5 3 _ rfl, h5 4 _ rfl⟩
theorem cnt_one {α : Type} {sl : α → Int} {s : Int} {l : List α} (h : Srt sl l) : (l.countP (fun d => sl d == s) = 0 ∧ l.any (fun d => sl d == s) = false) ∨ (l.countP (fun d => sl d == s) = 1 ∧ ∃ d ∈ l, sl d = s) := by
  rcases one_slot (s := s) h with e | ⟨a, e⟩
  · refine Or.inl ⟨by rw [List.countP_eq_length_filter, e]; rfl, ?_⟩
    rw [List.any_eq_false]
    intro d hd hq
    have : d ∈ l.filter (fun d => sl d == s) := List.mem_filter.2 ⟨hd, hq⟩
    rw [e] at this; simp at this
  · refine Or.inr ⟨by rw [List.countP_eq_length_filter, e]; rfl, a, ?_⟩
    have : a ∈ l.filter (fun d => sl d == s) := by rw [e]; simp
    exact ⟨(List.mem_filter.1 this).1, by simpa using (List.mem_filter.1 this).2⟩
theorem once_cnt {N D : Int} {us : List Us} {gs : List Gr} {ks : List Ak} (h : Val N D us gs ks) (s : Int) : us.countP (fun d => d.s == s) + gs.countP (fun d => d.s == s) = if bsyB s us gs = true then 1 else 0 := by
  rcases cnt_one (s := s) h.su with ⟨e1, a1⟩ | ⟨e1, d, hd, f1⟩ <;> rcases cnt_one (s := s) h.sg with ⟨e2, a2⟩ | ⟨e2, d', hd', f2⟩
  · rw [e1, e2, bsyB, a1, a2]; rfl
  · have : bsyB s us gs = true := by rw [bsyB, Bool.or_eq_true]; exact Or.inr (List.any_eq_true.2 ⟨d', hd', by simpa using f2⟩)
    rw [e1, e2, this]; rfl
  · have : bsyB s us gs = true := by rw [bsyB, Bool.or_eq_true]; exact Or.inl (List.any_eq_true.2 ⟨d, hd, by simpa using f1⟩)
    rw [e1, e2, this]; rfl
  · exact absurd (f1.trans f2.symm) (h.ug d hd d' hd')
theorem val_exp {N D : Int} {us : List Us} {gs : List Gr} {ks : List Ak} (q : Gr → Bool) (h : Val N D us gs ks) : Val N D us (gs.filter q) ks := by
  have := val_sub (fun _ => true) q (fun _ => true) h
  rwa [filt_all (fun _ _ => rfl), filt_all (fun _ _ => rfl)] at this
theorem cnt_snoc {α : Type} {q : α → Bool} {l : List α} {i : Nat} {d : α} (h : l[i]? = some d) : (l.take (i + 1)).countP q = (l.take i).countP q + if q d = true then 1 else 0 := by
  rw [take_snocG h, List.countP_append, List.countP_singleton]
theorem cnt_le {α : Type} (q : α → Bool) (l : List α) (i : Nat) : (l.take i).countP q ≤ l.length := Nat.le_trans List.countP_le_length (List.length_take_le' i l)

set_option linter.unusedSimpArgs false in
set_option linter.unusedVariables false in
set_option maxRecDepth 100000 in
set_option maxHeartbeats 2000000 in
theorem once_few (vu vg va : Value) (us : List Us) (gs : List Gr) (ks : List Ak) (N D : Int) (steps : List St) (vs : Value) (w : World) (su : SlU w vu us) (sg : SlG w vg gs) (sa : SlA w va ks) (ss : SlT stL w vs steps) (hk : ∀ d ∈ steps, 0 ≤ d.k ∧ d.k ≤ 255) (hf : fewB us gs ks = false) : Calls Try.prog 5 #[.agg #[vu, vg, va], .agg #[.int .i64 N, .int .i64 D], vs] w fun e w' => e = .returned (.bool true) ∧ Below w.heap.size w w' := by
  obtain ⟨ps, cs, e0, hls, hcs, _⟩ := ss.form steps.length rfl
  subst e0
  have HK := Lib.hid hk
  clear hk
  obtain ⟨pu, cu, e0, hlu, hcu, _⟩ := su.form us.length rfl
  subst e0
  obtain ⟨pg, cg, e0, hlg, hcg, _⟩ := sg.form gs.length rfl
  subst e0
  obtain ⟨pa, ca, e0, hla, hca, _⟩ := sa.form ks.length rfl
  subst e0
  have SU := Lib.hid su
  have SG := Lib.hid sg
  have SA := Lib.hid sa
  have SS := Lib.hid ss
  clear su sg sa ss
  have HF := Lib.hid hf
  clear hf
  go_enter Try.func5, Try.ntmps5
  go_wp2_with fail
  refine (head_true _).mono ?_
  rintro e w1 ⟨rfl, hb⟩
  replace SU := Lib.hid (((SU.out.below (belowNew _ _)).below (belowNew _ _)).below hb)
  replace SG := Lib.hid (((SG.out.below (belowNew _ _)).below (belowNew _ _)).below hb)
  replace SA := Lib.hid (((SA.out.below (belowNew _ _)).below (belowNew _ _)).below hb)
  have oT : Own w1 w.heap.size [.slice pu us.length cu, .slice pg gs.length cg, .slice pa ks.length ca] 26 := ((own_at _ _ rfl).alloc _).below hb
  have oL : Own w1 (w.heap.size + 1) [.int .i64 N, .int .i64 D] 28 := (own_at _ _ (by simp)).below hb
  have bel := belowTo (((Below.refl w.heap.size w).alloc (by simp) _).alloc (by simp) _) hb (by simp; omega)
  clear hb
  obtain ⟨cT0, cT1, cT2, fT, zT⟩ := own3 oT
  obtain ⟨cL0, cL1, fL, zL⟩ := own2 oL
  go_wp2_with fail
  refine (few_lit _ _ _ us gs ks _ SU.out SG.out SA.out false HF.out).mono ?_
  rintro e w2 ⟨rfl, hb⟩
  replace oT := oT.below hb
  replace oL := oL.below hb
  replace SU := Lib.hid (SU.out.below hb)
  replace SG := Lib.hid (SG.out.below hb)
  replace SA := Lib.hid (SA.out.below hb)
  replace bel := belowTo bel hb (by exact bel.size)
  clear hb
  clear cT0 cT1 cT2 fT zT cL0 cL1 fL zL
  obtain ⟨cT0, cT1, cT2, fT, zT⟩ := own3 oT
  obtain ⟨cL0, cL1, fL, zL⟩ := own2 oL
  go_wp2_with fail
  go_ret
  exact ⟨rfl, bel⟩

set_option linter.unusedSimpArgs false in
set_option linter.unusedVariables false in
set_option maxRecDepth 100000 in
set_option maxHeartbeats 2000000 in
theorem once_bad (vu vg va : Value) (us : List Us) (gs : List Gr) (ks : List Ak) (N D : Int) (steps : List St) (vs : Value) (w : World) (su : SlU w vu us) (sg : SlG w vg gs) (sa : SlA w va ks) (ss : SlT stL w vs steps) (hk : ∀ d ∈ steps, 0 ≤ d.k ∧ d.k ≤ 255) (hf : fewB us gs ks = true) (hv : vldT N D us gs ks = false) : Calls Try.prog 5 #[.agg #[vu, vg, va], .agg #[.int .i64 N, .int .i64 D], vs] w fun e w' => e = .returned (.bool true) ∧ Below w.heap.size w w' := by
  have u70 : us.length ≤ 70 := (fewB_iff.1 hf).1
  have g70 : gs.length ≤ 70 := (fewB_iff.1 hf).2.1
  have k70 : ks.length ≤ 70 := (fewB_iff.1 hf).2.2
  obtain ⟨ps, cs, e0, hls, hcs, _⟩ := ss.form steps.length rfl
  subst e0
  have HK := Lib.hid hk
  clear hk
  obtain ⟨pu, cu, e0, hlu, hcu, _⟩ := su.form us.length rfl
  subst e0
  obtain ⟨pg, cg, e0, hlg, hcg, _⟩ := sg.form gs.length rfl
  subst e0
  obtain ⟨pa, ca, e0, hla, hca, _⟩ := sa.form ks.length rfl
  subst e0
  have SU := Lib.hid su
  have SG := Lib.hid sg
  have SA := Lib.hid sa
  have SS := Lib.hid ss
  clear su sg sa ss
  have HF := Lib.hid hf
  have HV := Lib.hid hv
  clear hf hv
  go_enter Try.func5, Try.ntmps5
  go_wp2_with fail
  refine (head_true _).mono ?_
  rintro e w1 ⟨rfl, hb⟩
  replace SU := Lib.hid (((SU.out.below (belowNew _ _)).below (belowNew _ _)).below hb)
  replace SG := Lib.hid (((SG.out.below (belowNew _ _)).below (belowNew _ _)).below hb)
  replace SA := Lib.hid (((SA.out.below (belowNew _ _)).below (belowNew _ _)).below hb)
  have oT : Own w1 w.heap.size [.slice pu us.length cu, .slice pg gs.length cg, .slice pa ks.length ca] 26 := ((own_at _ _ rfl).alloc _).below hb
  have oL : Own w1 (w.heap.size + 1) [.int .i64 N, .int .i64 D] 28 := (own_at _ _ (by simp)).below hb
  have bel := belowTo (((Below.refl w.heap.size w).alloc (by simp) _).alloc (by simp) _) hb (by simp; omega)
  clear hb
  obtain ⟨cT0, cT1, cT2, fT, zT⟩ := own3 oT
  obtain ⟨cL0, cL1, fL, zL⟩ := own2 oL
  go_wp2_with fail
  refine (few_lit _ _ _ us gs ks _ SU.out SG.out SA.out true HF.out).mono ?_
  rintro e w2 ⟨rfl, hb⟩
  replace oT := oT.below hb
  replace oL := oL.below hb
  replace SU := Lib.hid (SU.out.below hb)
  replace SG := Lib.hid (SG.out.below hb)
  replace SA := Lib.hid (SA.out.below hb)
  replace bel := belowTo bel hb (by exact bel.size)
  clear hb
  clear cT0 cT1 cT2 fT zT cL0 cL1 fL zL
  obtain ⟨cT0, cT1, cT2, fT, zT⟩ := own3 oT
  obtain ⟨cL0, cL1, fL, zL⟩ := own2 oL
  go_wp2_with fail
  refine (rvalid_lit _ _ _ us gs ks N D _ SU.out SG.out SA.out (by omega) (by omega) (by omega) false HV.out).mono ?_
  rintro e w3 ⟨rfl, hb⟩
  replace oT := oT.below hb
  replace oL := oL.below hb
  replace SU := Lib.hid (SU.out.below hb)
  replace SG := Lib.hid (SG.out.below hb)
  replace SA := Lib.hid (SA.out.below hb)
  replace bel := belowTo bel hb (by exact bel.size)
  clear hb
  clear cT0 cT1 cT2 fT zT cL0 cL1 fL zL
  obtain ⟨cT0, cT1, cT2, fT, zT⟩ := own3 oT
  obtain ⟨cL0, cL1, fL, zL⟩ := own2 oL
  go_wp2_with fail
  go_ret
  exact ⟨rfl, bel⟩

set_option linter.unusedSimpArgs false in
set_option linter.unusedVariables false in
set_option maxRecDepth 100000 in
set_option maxHeartbeats 2000000 in
theorem once_long (vu vg va : Value) (us : List Us) (gs : List Gr) (ks : List Ak) (N D : Int) (steps : List St) (vs : Value) (w : World) (su : SlU w vu us) (sg : SlG w vg gs) (sa : SlA w va ks) (ss : SlT stL w vs steps) (hk : ∀ d ∈ steps, 0 ≤ d.k ∧ d.k ≤ 255) (hf : fewB us gs ks = true) (hv : vldT N D us gs ks = true) (hl : decide (60 < (steps.length : Int)) = true) : Calls Try.prog 5 #[.agg #[vu, vg, va], .agg #[.int .i64 N, .int .i64 D], vs] w fun e w' => e = .returned (.bool true) ∧ Below w.heap.size w w' := by
  have u70 : us.length ≤ 70 := (fewB_iff.1 hf).1
  have g70 : gs.length ≤ 70 := (fewB_iff.1 hf).2.1
  have k70 : ks.length ≤ 70 := (fewB_iff.1 hf).2.2
  obtain ⟨ps, cs, e0, hls, hcs, _⟩ := ss.form steps.length rfl
  subst e0
  have HK := Lib.hid hk
  clear hk
  obtain ⟨pu, cu, e0, hlu, hcu, _⟩ := su.form us.length rfl
  subst e0
  obtain ⟨pg, cg, e0, hlg, hcg, _⟩ := sg.form gs.length rfl
  subst e0
  obtain ⟨pa, ca, e0, hla, hca, _⟩ := sa.form ks.length rfl
  subst e0
  have SU := Lib.hid su
  have SG := Lib.hid sg
  have SA := Lib.hid sa
  have SS := Lib.hid ss
  clear su sg sa ss
  have iu0 : (0 : Int) ≤ (us.length : Int) := Int.natCast_nonneg _
  have ig0 : (0 : Int) ≤ (gs.length : Int) := Int.natCast_nonneg _
  have ia0 : (0 : Int) ≤ (ks.length : Int) := Int.natCast_nonneg _
  have iu : (us.length : Int) ≤ 70 := by omega
  have ig : (gs.length : Int) ≤ 70 := by omega
  have ia : (ks.length : Int) ≤ 70 := by omega
  have HF := Lib.hid hf
  have HV := Lib.hid hv
  clear hf hv
  go_enter Try.func5, Try.ntmps5
  go_wp2_with fail
  refine (head_true _).mono ?_
  rintro e w1 ⟨rfl, hb⟩
  replace SU := Lib.hid (((SU.out.below (belowNew _ _)).below (belowNew _ _)).below hb)
  replace SG := Lib.hid (((SG.out.below (belowNew _ _)).below (belowNew _ _)).below hb)
  replace SA := Lib.hid (((SA.out.below (belowNew _ _)).below (belowNew _ _)).below hb)
  have oT : Own w1 w.heap.size [.slice pu us.length cu, .slice pg gs.length cg, .slice pa ks.length ca] 26 := ((own_at _ _ rfl).alloc _).below hb
  have oL : Own w1 (w.heap.size + 1) [.int .i64 N, .int .i64 D] 28 := (own_at _ _ (by simp)).below hb
  have bel := belowTo (((Below.refl w.heap.size w).alloc (by simp) _).alloc (by simp) _) hb (by simp; omega)
  clear hb
  obtain ⟨cT0, cT1, cT2, fT, zT⟩ := own3 oT
  obtain ⟨cL0, cL1, fL, zL⟩ := own2 oL
  go_wp2_with fail
  refine (few_lit _ _ _ us gs ks _ SU.out SG.out SA.out true HF.out).mono ?_
  rintro e w2 ⟨rfl, hb⟩
  replace oT := oT.below hb
  replace oL := oL.below hb
  replace SU := Lib.hid (SU.out.below hb)
  replace SG := Lib.hid (SG.out.below hb)
  replace SA := Lib.hid (SA.out.below hb)
  replace bel := belowTo bel hb (by exact bel.size)
  clear hb
  clear cT0 cT1 cT2 fT zT cL0 cL1 fL zL
  obtain ⟨cT0, cT1, cT2, fT, zT⟩ := own3 oT
  obtain ⟨cL0, cL1, fL, zL⟩ := own2 oL
  go_wp2_with fail
  refine (rvalid_lit _ _ _ us gs ks N D _ SU.out SG.out SA.out (by omega) (by omega) (by omega) true HV.out).mono ?_
  rintro e w3 ⟨rfl, hb⟩
  replace oT := oT.below hb
  replace oL := oL.below hb
  replace SU := Lib.hid (SU.out.below hb)
  replace SG := Lib.hid (SG.out.below hb)
  replace SA := Lib.hid (SA.out.below hb)
  replace bel := belowTo bel hb (by exact bel.size)
  clear hb
  clear cT0 cT1 cT2 fT zT cL0 cL1 fL zL
  obtain ⟨cT0, cT1, cT2, fT, zT⟩ := own3 oT
  obtain ⟨cL0, cL1, fL, zL⟩ := own2 oL
  go_wp2_with fail
  go_ret
  exact ⟨rfl, bel⟩

set_option linter.unusedSimpArgs false in
set_option linter.unusedVariables false in
set_option maxRecDepth 100000 in
set_option maxHeartbeats 2000000 in
theorem once_go (vu vg va : Value) (us : List Us) (gs : List Gr) (ks : List Ak) (N D : Int) (steps : List St) (vs : Value) (w : World) (su : SlU w vu us) (sg : SlG w vg gs) (sa : SlA w va ks) (ss : SlT stL w vs steps) (hk : ∀ d ∈ steps, 0 ≤ d.k ∧ d.k ≤ 255) (hf : fewB us gs ks = true) (hv : vldT N D us gs ks = true) (hl : decide (60 < (steps.length : Int)) = false) : Calls Try.prog 5 #[.agg #[vu, vg, va], .agg #[.int .i64 N, .int .i64 D], vs] w fun e w' => e = .returned (.bool true) ∧ Below w.heap.size w w' := by
  have u70 : us.length ≤ 70 := (fewB_iff.1 hf).1
  have g70 : gs.length ≤ 70 := (fewB_iff.1 hf).2.1
  have k70 : ks.length ≤ 70 := (fewB_iff.1 hf).2.2
  obtain ⟨ps, cs, e0, hls, hcs, _⟩ := ss.form steps.length rfl
  subst e0
  have HK := Lib.hid hk
  clear hk
  obtain ⟨pu, cu, e0, hlu, hcu, _⟩ := su.form us.length rfl
  subst e0
  obtain ⟨pg, cg, e0, hlg, hcg, _⟩ := sg.form gs.length rfl
  subst e0
  obtain ⟨pa, ca, e0, hla, hca, _⟩ := sa.form ks.length rfl
  subst e0
  have SU := Lib.hid su
  have SG := Lib.hid sg
  have SA := Lib.hid sa
  have SS := Lib.hid ss
  clear su sg sa ss
  have iu0 : (0 : Int) ≤ (us.length : Int) := Int.natCast_nonneg _
  have ig0 : (0 : Int) ≤ (gs.length : Int) := Int.natCast_nonneg _
  have ia0 : (0 : Int) ≤ (ks.length : Int) := Int.natCast_nonneg _
  have iu : (us.length : Int) ≤ 70 := by omega
  have ig : (gs.length : Int) ≤ 70 := by omega
  have ia : (ks.length : Int) ≤ 70 := by omega
  have hs60 : (steps.length : Int) ≤ 60 := by have := of_decide_eq_false hl; omega
  have hs0 : (0 : Int) ≤ (steps.length : Int) := Int.natCast_nonneg _
  have HVV := Lib.hid (vld_iff.1 hv)
  have HF := Lib.hid hf
  have HV := Lib.hid hv
  clear hf hv
  have SS0 := SS
  go_enter Try.func5, Try.ntmps5
  go_wp2_with fail
  refine (head_true _).mono ?_
  rintro e w1 ⟨rfl, hb⟩
  replace SU := Lib.hid (((SU.out.below (belowNew _ _)).below (belowNew _ _)).below hb)
  replace SG := Lib.hid (((SG.out.below (belowNew _ _)).below (belowNew _ _)).below hb)
  replace SA := Lib.hid (((SA.out.below (belowNew _ _)).below (belowNew _ _)).below hb)
  have oT : Own w1 w.heap.size [.slice pu us.length cu, .slice pg gs.length cg, .slice pa ks.length ca] 26 := ((own_at _ _ rfl).alloc _).below hb
  have oL : Own w1 (w.heap.size + 1) [.int .i64 N, .int .i64 D] 28 := (own_at _ _ (by simp)).below hb
  have bel := belowTo (((Below.refl w.heap.size w).alloc (by simp) _).alloc (by simp) _) hb (by simp; omega)
  clear hb
  obtain ⟨cT0, cT1, cT2, fT, zT⟩ := own3 oT
  obtain ⟨cL0, cL1, fL, zL⟩ := own2 oL
  go_wp2_with fail
  refine (few_lit _ _ _ us gs ks _ SU.out SG.out SA.out true HF.out).mono ?_
  rintro e w2 ⟨rfl, hb⟩
  replace oT := oT.below hb
  replace oL := oL.below hb
  replace SU := Lib.hid (SU.out.below hb)
  replace SG := Lib.hid (SG.out.below hb)
  replace SA := Lib.hid (SA.out.below hb)
  replace bel := belowTo bel hb (by exact bel.size)
  clear hb
  clear cT0 cT1 cT2 fT zT cL0 cL1 fL zL
  obtain ⟨cT0, cT1, cT2, fT, zT⟩ := own3 oT
  obtain ⟨cL0, cL1, fL, zL⟩ := own2 oL
  go_wp2_with fail
  refine (rvalid_lit _ _ _ us gs ks N D _ SU.out SG.out SA.out (by omega) (by omega) (by omega) true HV.out).mono ?_
  rintro e w3 ⟨rfl, hb⟩
  replace oT := oT.below hb
  replace oL := oL.below hb
  replace SU := Lib.hid (SU.out.below hb)
  replace SG := Lib.hid (SG.out.below hb)
  replace SA := Lib.hid (SA.out.below hb)
  replace bel := belowTo bel hb (by exact bel.size)
  clear hb
  clear cT0 cT1 cT2 fT zT cL0 cL1 fL zL
  obtain ⟨cT0, cT1, cT2, fT, zT⟩ := own3 oT
  obtain ⟨cL0, cL1, fL, zL⟩ := own2 oL
  go_wp2_with fail
  have OT0 := Lib.hid oT
  have OL0 := Lib.hid oL
  have BL0 := Lib.hid bel
  have SU0 := SU
  have SG0 := SG
  have SA0 := SA
  clear oT oL bel SU SG SA
  go_loopw [36] (fun ii wr => ∃ (i : Nat) (us' : List Us) (gs' : List Gr) (ks' : List Ak) (p1 p2 p3 : Option Addr) (n1 n2 n3 c1 c2 c3 : Nat), i ≤ steps.length ∧ ii = .int .i64 i ∧ Val N D us' gs' ks' ∧ Own wr w.heap.size [.slice p1 n1 c1, .slice p2 n2 c2, .slice p3 n3 c3] 26 ∧ Own wr (w.heap.size + 1) [.int .i64 N, .int .i64 D] 28 ∧ SlU wr (.slice p1 n1 c1) us' ∧ SlG wr (.slice p2 n2 c2) gs' ∧ SlA wr (.slice p3 n3 c3) ks' ∧ Below w.heap.size w wr) (fun i _ => steps.length - (intOf i).toNat)
  case atStart => exact ⟨0, us, gs, ks, _, _, _, _, _, _, _, _, _, by omega, rfl, HVV.out, OT0.out, OL0.out, SU0.out, SG0.out, SA0.out, BL0.out⟩
  case round =>
    clear cT0 cT1 cT2 fT zT cL0 cL1 fL zL OT0 OL0 BL0 SU0 SG0 SA0 HVV
    obtain ⟨i, us, gs, ks, p1, p2, p3, n1, n2, n3, c1, c2, c3, hi, rfl, hval, hot, hol, hsu, hsg, hsa, hbel⟩ := hrel
    have HVAL := Lib.hid hval
    have OTr := Lib.hid hot
    have OLr := Lib.hid hol
    have SUr := Lib.hid hsu
    have SGr := Lib.hid hsg
    have SAr := Lib.hid hsa
    have BLr := Lib.hid hbel
    clear hval hot hol hsu hsg hsa hbel
    have hn24 := HVAL.out.n24
    have hk24 := HVAL.out.k24
    have j0 : (0 : Int) ≤ (i : Int) := Int.natCast_nonneg _
    by_cases hlt : i < steps.length
    · obtain ⟨d, b, off, hd, rfl, hbl, _, d0, d1, d2, d3, d4⟩ := SS0.out.atS BLr.out hlt
      have j1 : (i : Int) < (steps.length : Int) := by omega
      obtain ⟨hk0, hk1⟩ := HK.out d (List.mem_of_getElem? hd)
      clear hd
      obtain ⟨t0, t1, t2, fT, zT⟩ := own3 OTr.out
      obtain ⟨y0, y1, fL, zL⟩ := own2 OLr.out
      have B2 := Lib.hid (show Below wr.heap.size wr ((wr.alloc (.cells #[.int .u8 d.k, .int .i64 d.s, .int .i64 d.o, .int .i64 d.p, .int .i64 d.f] 55)).alloc (.cells #[.slice p1 n1 c1, .slice p2 n2 c2, .slice p3 n3 c3] 26)) from ((Below.refl _ _).alloc (Nat.le_refl _) _).alloc (by simp) _)
      have OTx := Lib.hid (OTr.out.below B2.out)
      have OLx := Lib.hid (OLr.out.below B2.out)
      have OSx := Lib.hid (show Own ((wr.alloc (.cells #[.int .u8 d.k, .int .i64 d.s, .int .i64 d.o, .int .i64 d.p, .int .i64 d.f] 55)).alloc (.cells #[.slice p1 n1 c1, .slice p2 n2 c2, .slice p3 n3 c3] 26)) wr.heap.size [.int .u8 d.k, .int .i64 d.s, .int .i64 d.o, .int .i64 d.p, .int .i64 d.f] 55 from (own_at _ _ rfl).alloc _)
      have OXx := Lib.hid (show Own ((wr.alloc (.cells #[.int .u8 d.k, .int .i64 d.s, .int .i64 d.o, .int .i64 d.p, .int .i64 d.f] 55)).alloc (.cells #[.slice p1 n1 c1, .slice p2 n2 c2, .slice p3 n3 c3] 26)) (wr.heap.size + 1) [.slice p1 n1 c1, .slice p2 n2 c2, .slice p3 n3 c3] 26 from own_at _ _ (by simp))
      have SUx := Lib.hid (SUr.out.below B2.out)
      have SGx := Lib.hid (SGr.out.below B2.out)
      have SAx := Lib.hid (SAr.out.below B2.out)
      have BLx := Lib.hid (belowTo BLr.out B2.out BLr.out.size)
      clear B2
      rcases (show d.k.tmod 4 = 0 ∨ d.k.tmod 4 = 1 ∨ d.k.tmod 4 = 2 ∨ d.k.tmod 4 = 3 by have h1 := Int.tmod_nonneg 4 hk0; have h2 := Int.tmod_lt_of_pos d.k (show (0 : Int) < 4 by decide); omega) with hk | hk | hk | hk
      all_goals have zL0 := OLr.out.lt
      · by_cases hE : auE N D us gs ks ⟨d.s, d.o, d.p, d.f⟩ = 0
        · have HE := Lib.hid hE
          clear hE
          have hwz := BLr.out.size
          obtain ⟨cT0, cT1, cT2, fT, zT⟩ := own3 OTx.out
          obtain ⟨cL0, cL1, fL, zL⟩ := own2 OLx.out
          obtain ⟨cS0, cS1, cS2, cS3, cS4, fS, zS⟩ := own5 OSx.out
          obtain ⟨cX0, cX1, cX2, fX, zX⟩ := own3 OXx.out
          go_wp2_with fail
          refine (addu_lit _ _ _ us gs ks N D _ SUx.out SGx.out SAx.out ⟨d.s, d.o, d.p, d.f⟩ (by omega) (by omega) (by omega) 0 HE.out).mono ?_
          rintro e w4 ⟨v1, v2, v3, rfl, z1, z2, z3, hb⟩
          have ZU := Lib.hid z1
          have ZG := Lib.hid z2
          have ZA := Lib.hid z3
          clear z1 z2 z3
          obtain ⟨q1, m1, r1, f0⟩ := ZU.out.slc
          subst f0
          obtain ⟨q2, m2, r2, f0⟩ := ZG.out.slc
          subst f0
          obtain ⟨q3, m3, r3, f0⟩ := ZA.out.slc
          subst f0
          have OT4 := Lib.hid (OTx.out.below hb)
          have OL4 := Lib.hid (OLx.out.below hb)
          have OX4 := Lib.hid (OXx.out.below hb)
          have SU4 := Lib.hid (SUx.out.below hb)
          have SG4 := Lib.hid (SGx.out.below hb)
          have SA4 := Lib.hid (SAx.out.below hb)
          have BL4 := Lib.hid (belowTo BLx.out hb BLx.out.size)
          clear hb cT0 cT1 cT2 fT zT cL0 cL1 fL zL cS0 cS1 cS2 cS3 cS4 fS zS cX0 cX1 cX2 fX zX t0 t1 t2 y0 y1
          clear OTx OLx OSx OXx SUx SGx SAx BLx OTr OLr SUr SGr SAr
          obtain ⟨cT0, cT1, cT2, fT, zT⟩ := own3 OT4.out
          obtain ⟨cX0, cX1, cX2, fX, zX⟩ := own3 OX4.out
          have nTX : ¬ w.heap.size = wr.heap.size + 1 := by omega
          have nLX : ¬ w.heap.size + 1 = wr.heap.size + 1 := by have := OL4.out.lt; have h9 := zL0; omega
          go_upto_region 16 with fail
          have OT5 := Lib.hid (((OT4.out.other (a := ⟨wr.heap.size + 1, 0, none⟩) (by first | (simp; done) | (simp; omega)) (.slice q1 m1 r1)).other (a := ⟨wr.heap.size + 1, 1, none⟩) (by first | (simp; done) | (simp; omega)) (.slice q2 m2 r2)).other (a := ⟨wr.heap.size + 1, 2, none⟩) (by first | (simp; done) | (simp; omega)) (.slice q3 m3 r3))
          have OL5 := Lib.hid (((OL4.out.other (a := ⟨wr.heap.size + 1, 0, none⟩) (by first | (simp; done) | (simp; omega)) (.slice q1 m1 r1)).other (a := ⟨wr.heap.size + 1, 1, none⟩) (by first | (simp; done) | (simp; omega)) (.slice q2 m2 r2)).other (a := ⟨wr.heap.size + 1, 2, none⟩) (by first | (simp; done) | (simp; omega)) (.slice q3 m3 r3))
          have OX5 := Lib.hid (own_set3 (x := .slice q1 m1 r1) (y := .slice q2 m2 r2) (z := .slice q3 m3 r3) OX4.out)
          have SU5 := Lib.hid (SlT.set3 SU4.out numU OX4.out (.slice q1 m1 r1) (.slice q2 m2 r2) (.slice q3 m3 r3))
          have SG5 := Lib.hid (SlT.set3 SG4.out numG OX4.out (.slice q1 m1 r1) (.slice q2 m2 r2) (.slice q3 m3 r3))
          have SA5 := Lib.hid (SlT.set3 SA4.out numA OX4.out (.slice q1 m1 r1) (.slice q2 m2 r2) (.slice q3 m3 r3))
          have ZU5 := Lib.hid (SlT.set3 ZU.out numU OX4.out (.slice q1 m1 r1) (.slice q2 m2 r2) (.slice q3 m3 r3))
          have ZG5 := Lib.hid (SlT.set3 ZG.out numG OX4.out (.slice q1 m1 r1) (.slice q2 m2 r2) (.slice q3 m3 r3))
          have ZA5 := Lib.hid (SlT.set3 ZA.out numA OX4.out (.slice q1 m1 r1) (.slice q2 m2 r2) (.slice q3 m3 r3))
          have BL5 := Lib.hid (below_set3 (x := .slice q1 m1 r1) (y := .slice q2 m2 r2) (z := .slice q3 m3 r3) BL4.out (show w.heap.size ≤ wr.heap.size + 1 by omega))
          generalize (((w4.setCell ⟨wr.heap.size + 1, 0, none⟩ (.slice q1 m1 r1)).setCell ⟨wr.heap.size + 1, 1, none⟩ (.slice q2 m2 r2)).setCell ⟨wr.heap.size + 1, 2, none⟩ (.slice q3 m3 r3)) = w5 at OT5 OL5 OX5 SU5 SG5 SA5 ZU5 ZG5 ZA5 BL5 ⊢
          clear cT0 cT1 cT2 fT zT cX0 cX1 cX2 fX zX OT4 OL4 OX4 SU4 SG4 SA4 BL4 ZU ZG ZA
          obtain ⟨cT0, cT1, cT2, fT, zT⟩ := own3 OT5.out
          obtain ⟨cX0, cX1, cX2, fX, zX⟩ := own3 OX5.out
          go_upto_region 18 with fail
          have OT6 := Lib.hid (own_set3 (x := .slice q1 m1 r1) (y := .slice q2 m2 r2) (z := .slice q3 m3 r3) OT5.out)
          have OL6 := Lib.hid (((OL5.out.other (a := ⟨w.heap.size, 0, none⟩) (by first | (simp; done) | (simp; omega)) (.slice q1 m1 r1)).other (a := ⟨w.heap.size, 1, none⟩) (by first | (simp; done) | (simp; omega)) (.slice q2 m2 r2)).other (a := ⟨w.heap.size, 2, none⟩) (by first | (simp; done) | (simp; omega)) (.slice q3 m3 r3))
          have ZU6 := Lib.hid (SlT.set3 ZU5.out numU OT5.out (.slice q1 m1 r1) (.slice q2 m2 r2) (.slice q3 m3 r3))
          have ZG6 := Lib.hid (SlT.set3 ZG5.out numG OT5.out (.slice q1 m1 r1) (.slice q2 m2 r2) (.slice q3 m3 r3))
          have ZA6 := Lib.hid (SlT.set3 ZA5.out numA OT5.out (.slice q1 m1 r1) (.slice q2 m2 r2) (.slice q3 m3 r3))
          have BL6 := Lib.hid (below_set3 (x := .slice q1 m1 r1) (y := .slice q2 m2 r2) (z := .slice q3 m3 r3) BL5.out (Nat.le_refl w.heap.size))
          generalize (((w5.setCell ⟨w.heap.size, 0, none⟩ (.slice q1 m1 r1)).setCell ⟨w.heap.size, 1, none⟩ (.slice q2 m2 r2)).setCell ⟨w.heap.size, 2, none⟩ (.slice q3 m3 r3)) = w6 at OT6 OL6 ZU6 ZG6 ZA6 BL6 ⊢
          clear cT0 cT1 cT2 fT zT cX0 cX1 cX2 fX zX OT5 OL5 OX5 SU5 SG5 SA5 ZU5 ZG5 ZA5 BL5
          obtain ⟨UU, hUU⟩ : ∃ UU, UU = (adU ⟨d.s, d.o, d.p, d.f⟩ us) := ⟨_, rfl⟩
          obtain ⟨GG, hGG⟩ : ∃ GG, GG = gs := ⟨_, rfl⟩
          obtain ⟨AA, hAA⟩ : ∃ AA, AA = (una d.s ks) := ⟨_, rfl⟩
          have HVN := Lib.hid (show Val N D UU GG AA from by rw [hUU, hGG, hAA]; exact (by obtain ⟨h1, h2, h3, h4⟩ := auE_ok HE.out; exact val_addU h1 h2 h3 h4))
          have TU := Lib.hid (show SlU w6 (.slice q1 m1 r1) UU from by rw [hUU]; exact ZU6.out)
          have TG := Lib.hid (show SlG w6 (.slice q2 m2 r2) GG from by rw [hGG]; exact ZG6.out)
          have TA := Lib.hid (show SlA w6 (.slice q3 m3 r3) AA from by rw [hAA]; exact ZA6.out)
          have oT := OT6
          have oL := OL6
          have bel := BL6
          clear hUU hGG hAA ZU6 ZG6 ZA6 OT6 OL6 BL6
          have HV2 := Lib.hid (HVN.out)
          have hn24b := HV2.out.n24
          have hd60 := (layB_iff.1 HV2.out.lay).2
          have e1 := TU.out.form UU.length rfl
          obtain ⟨_, _, f0, _, _, _⟩ := e1
          injection f0 with f1 f2 f3
          subst f2
          clear f1 f3
          have e1 := TG.out.form GG.length rfl
          obtain ⟨_, _, f0, _, _, _⟩ := e1
          injection f0 with f1 f2 f3
          subst f2
          clear f1 f3
          obtain ⟨t0, t1, t2, fT, zT⟩ := own3 oT.out
          obtain ⟨y0, y1, fL, zL⟩ := own2 oL.out
          go_wp2_with fail
          clear t0 t1 t2 fT zT y0 y1 fL zL
          go_loopw [91] (fun jj wq => ∃ (s : Nat), (s : Int) ≤ D ∧ jj = .int .i64 s ∧ Below w6.heap.size w6 wq) (fun j _ => D.toNat - (intOf j).toNat)
          case atStart => exact ⟨0, by have := hd60.1; omega, rfl, Below.refl _ _⟩
          case round =>
            rename World => wq
            obtain ⟨s, hs, rfl, hbq⟩ := hrel
            have BQ := Lib.hid hbq
            clear hbq
            have s0 : (0 : Int) ≤ (s : Int) := Int.natCast_nonneg _
            by_cases hsD : (s : Int) < D
            · have oTq := Lib.hid (oT.out.below BQ.out)
              obtain ⟨t0, t1, t2, fT, zT⟩ := own3 oTq.out
              have HCN := Lib.hid (once_cnt HV2.out (s : Int))
              have hd60b := hd60.2
              go_wp2_with fail
              go_loopw [13, 97] (fun nn ee wz => ∃ (e : Nat), e ≤ UU.length ∧ ee = .int .i64 e ∧ nn = .int .i64 ((UU.take e).countP (fun d => d.s == (s : Int)) : Nat) ∧ Below wq.heap.size wq wz) (fun _ e _ => UU.length - (intOf e).toNat)
              case atStart => exact ⟨0, by omega, rfl, by simp, Below.refl _ _⟩
              case round =>
                rename World => wp
                clear t0 t1 t2 fT zT
                obtain ⟨e, he, rfl, rfl, hbp⟩ := hrel
                have BP := Lib.hid hbp
                clear hbp
                have oTp := Lib.hid (oTq.out.below BP.out)
                obtain ⟨t0, t1, t2, fT, zT⟩ := own3 oTp.out
                have BT := Lib.hid (belowTo BQ.out BP.out BQ.out.size)
                have e0 : (0 : Int) ≤ (e : Int) := Int.natCast_nonneg _
                have hcu := cnt_le (fun d => d.s == (s : Int)) UU e
                have hcl := List.countP_le_length (p := (fun d => d.s == (s : Int))) (l := UU)
                have hcz : (0 : Int) ≤ ((UU.take e).countP (fun d => d.s == (s : Int)) : Nat) := Int.natCast_nonneg _
                by_cases hle : e < UU.length
                · obtain ⟨a, b', off', ha, rfl, _, _, a0, a1, a2, a3⟩ := TU.out.atU BT.out hle
                  have e1 : (e : Int) < (UU.length : Int) := by omega
                  have hcw : ((UU.take e).countP (fun d => d.s == (s : Int)) : Nat) < 1000 := by omega
                  have HA := Lib.hid (cnt_snoc (q := (fun d => d.s == (s : Int))) ha)
                  clear ha
                  have BP2 := Lib.hid (BP.out.alloc BP.out.size (.cells #[.int .i64 a.s, .int .i64 a.o, .int .i64 a.p, .int .i64 a.m] 32))
                  cases hq : (a.s == (s : Int)) with
                  | true =>
                    have HQ := Lib.hid hq
                    go_wp2_with fail
                    go_roundw
                    case rel => exact ⟨e + 1, by omega, by go_num, by rw [HA.out, HQ.out]; go_num, BP2.out⟩
                    case measure => simp [intOf]; omega
                  | false =>
                    have HQ := Lib.hid hq
                    go_wp2_with fail
                    go_roundw
                    case rel => exact ⟨e + 1, by omega, by go_num, by rw [HA.out, HQ.out]; simp, BP2.out⟩
                    case measure => simp [intOf]; omega
                · obtain rfl : e = UU.length := by omega
                  rw [List.take_length]
                  clear hcz hcu hle
                  replace BQ := Lib.hid (belowTo BQ.out BP.out BQ.out.size)
                  clear BT BP
                  have oTq2 := oTp
                  clear oTq oTp
                  have oTq := oTq2
                  clear oTq2
                  go_wp2_with fail
                  go_loopw [13, 112] (fun nn ee wz => ∃ (e : Nat), e ≤ GG.length ∧ ee = .int .i64 e ∧ nn = .int .i64 ((UU.countP (fun d => d.s == (s : Int)) + (GG.take e).countP (fun d => d.s == (s : Int)) : Nat) : Int) ∧ Below wp.heap.size wp wz) (fun _ e _ => GG.length - (intOf e).toNat)
                  case atStart => exact ⟨0, by omega, rfl, by simp, Below.refl _ _⟩
                  case round =>
                    rename World => wp
                    clear t0 t1 t2 fT zT
                    obtain ⟨e, he, rfl, rfl, hbp⟩ := hrel
                    have BP := Lib.hid hbp
                    clear hbp
                    have oTp := Lib.hid (oTq.out.below BP.out)
                    obtain ⟨t0, t1, t2, fT, zT⟩ := own3 oTp.out
                    have BT := Lib.hid (belowTo BQ.out BP.out BQ.out.size)
                    have e0 : (0 : Int) ≤ (e : Int) := Int.natCast_nonneg _
                    have hcu := cnt_le (fun d => d.s == (s : Int)) GG e
                    have hcl := List.countP_le_length (p := (fun d => d.s == (s : Int))) (l := UU)
                    have hcz : (0 : Int) ≤ ((UU.countP (fun d => d.s == (s : Int)) + (GG.take e).countP (fun d => d.s == (s : Int)) : Nat) : Int) := Int.natCast_nonneg _
                    by_cases hle : e < GG.length
                    · obtain ⟨a, b', off', ha, rfl, _, _, a0, a1, a2, a3, a4⟩ := TG.out.atG BT.out hle
                      have e1 : (e : Int) < (GG.length : Int) := by omega
                      have hcw : ((UU.countP (fun d => d.s == (s : Int)) + (GG.take e).countP (fun d => d.s == (s : Int)) : Nat) : Int) < 1000 := by omega
                      have HA := Lib.hid (cnt_snoc (q := (fun d => d.s == (s : Int))) ha)
                      clear ha
                      have BP2 := Lib.hid (BP.out.alloc BP.out.size (.cells #[.int .i64 a.s, .int .i64 a.o, .int .i64 a.p, .int .i64 a.m, .int .i64 a.u] 34))
                      cases hq : (a.s == (s : Int)) with
                      | true =>
                        have HQ := Lib.hid hq
                        go_wp2_with fail
                        go_roundw
                        case rel => exact ⟨e + 1, by omega, by go_num, by rw [HA.out, HQ.out]; go_num, BP2.out⟩
                        case measure => simp [intOf]; omega
                      | false =>
                        have HQ := Lib.hid hq
                        go_wp2_with fail
                        go_roundw
                        case rel => exact ⟨e + 1, by omega, by go_num, by rw [HA.out, HQ.out]; simp, BP2.out⟩
                        case measure => simp [intOf]; omega
                    · obtain rfl : e = GG.length := by omega
                      have HC2 := HCN.out
                      rw [List.take_length] at *
                      cases hb : bsyB (s : Int) UU GG with
                      | true =>
                        rw [hb] at HC2
                        have HB := Lib.hid hb
                        clear hb
                        have hc3 : ((UU.countP (fun d => d.s == (s : Int)) + GG.countP (fun d => d.s == (s : Int)) : Nat) : Int) = 1 := by rw [HC2]; rfl
                        rw [hc3]
                        clear hc3 HC2 HCN hcz hcu hcl
                        go_wp2_with (first | (go_at_call 19; refine (busy_lit _ _ _ UU GG (s : Int) _ (TU.out.below BT.out) (TG.out.below BT.out) true HB.out).mono ?_; rintro e9 w9 ⟨rfl, hb9⟩; have B9 := Lib.hid (belowTo BT.out hb9 BT.out.size); clear hb9) | fail)
                        go_roundw
                        case rel => exact ⟨s + 1, by omega, by go_num, B9.out⟩
                        case measure => simp [intOf]; omega
                      | false =>
                        rw [hb] at HC2
                        have HB := Lib.hid hb
                        clear hb
                        have hc3 : ((UU.countP (fun d => d.s == (s : Int)) + GG.countP (fun d => d.s == (s : Int)) : Nat) : Int) = 0 := by rw [HC2]; rfl
                        rw [hc3]
                        clear hc3 HC2 HCN hcz hcu hcl
                        go_wp2_with (first | (go_at_call 19; refine (busy_lit _ _ _ UU GG (s : Int) _ (TU.out.below BT.out) (TG.out.below BT.out) false HB.out).mono ?_; rintro e9 w9 ⟨rfl, hb9⟩; have B9 := Lib.hid (belowTo BT.out hb9 BT.out.size); clear hb9) | fail)
                        go_roundw
                        case rel => exact ⟨s + 1, by omega, by go_num, B9.out⟩
                        case measure => simp [intOf]; omega
            · have hs9 : (s : Int) = D := by omega
              go_wp2_with fail
              go_roundw
              case rel => exact ⟨i + 1, UU, GG, AA, _, _, _, _, _, _, _, _, _, by omega, by go_num, HV2.out, oT.out.below BQ.out, oL.out.below BQ.out, TU.out.below BQ.out, TG.out.below BQ.out, TA.out.below BQ.out, belowTo bel.out BQ.out bel.out.size⟩
              case measure => simp [intOf]; omega
        · obtain ⟨E, hE2⟩ : ∃ E, auE N D us gs ks ⟨d.s, d.o, d.p, d.f⟩ = E := ⟨_, rfl⟩
          rw [hE2] at hE
          have HE := Lib.hid hE2
          have hE3 : (E == 0) = false := by simpa using hE
          clear hE2
          have hwz := BLr.out.size
          obtain ⟨cT0, cT1, cT2, fT, zT⟩ := own3 OTx.out
          obtain ⟨cL0, cL1, fL, zL⟩ := own2 OLx.out
          obtain ⟨cS0, cS1, cS2, cS3, cS4, fS, zS⟩ := own5 OSx.out
          obtain ⟨cX0, cX1, cX2, fX, zX⟩ := own3 OXx.out
          go_wp2_with fail
          refine (addu_lit _ _ _ us gs ks N D _ SUx.out SGx.out SAx.out ⟨d.s, d.o, d.p, d.f⟩ (by omega) (by omega) (by omega) E HE.out).mono ?_
          rintro e w4 ⟨v1, v2, v3, rfl, z1, z2, z3, hb⟩
          have ZU := Lib.hid z1
          have ZG := Lib.hid z2
          have ZA := Lib.hid z3
          clear z1 z2 z3
          obtain ⟨q1, m1, r1, f0⟩ := ZU.out.slc
          subst f0
          obtain ⟨q2, m2, r2, f0⟩ := ZG.out.slc
          subst f0
          obtain ⟨q3, m3, r3, f0⟩ := ZA.out.slc
          subst f0
          have OT4 := Lib.hid (OTx.out.below hb)
          have OL4 := Lib.hid (OLx.out.below hb)
          have OX4 := Lib.hid (OXx.out.below hb)
          have SU4 := Lib.hid (SUx.out.below hb)
          have SG4 := Lib.hid (SGx.out.below hb)
          have SA4 := Lib.hid (SAx.out.below hb)
          have BL4 := Lib.hid (belowTo BLx.out hb BLx.out.size)
          clear hb cT0 cT1 cT2 fT zT cL0 cL1 fL zL cS0 cS1 cS2 cS3 cS4 fS zS cX0 cX1 cX2 fX zX t0 t1 t2 y0 y1
          clear OTx OLx OSx OXx SUx SGx SAx BLx OTr OLr SUr SGr SAr
          obtain ⟨cT0, cT1, cT2, fT, zT⟩ := own3 OT4.out
          obtain ⟨cX0, cX1, cX2, fX, zX⟩ := own3 OX4.out
          have nTX : ¬ w.heap.size = wr.heap.size + 1 := by omega
          have nLX : ¬ w.heap.size + 1 = wr.heap.size + 1 := by have := OL4.out.lt; have h9 := zL0; omega
          go_upto_region 16 with fail
          have OT5 := Lib.hid (((OT4.out.other (a := ⟨wr.heap.size + 1, 0, none⟩) (by first | (simp; done) | (simp; omega)) (.slice q1 m1 r1)).other (a := ⟨wr.heap.size + 1, 1, none⟩) (by first | (simp; done) | (simp; omega)) (.slice q2 m2 r2)).other (a := ⟨wr.heap.size + 1, 2, none⟩) (by first | (simp; done) | (simp; omega)) (.slice q3 m3 r3))
          have OL5 := Lib.hid (((OL4.out.other (a := ⟨wr.heap.size + 1, 0, none⟩) (by first | (simp; done) | (simp; omega)) (.slice q1 m1 r1)).other (a := ⟨wr.heap.size + 1, 1, none⟩) (by first | (simp; done) | (simp; omega)) (.slice q2 m2 r2)).other (a := ⟨wr.heap.size + 1, 2, none⟩) (by first | (simp; done) | (simp; omega)) (.slice q3 m3 r3))
          have OX5 := Lib.hid (own_set3 (x := .slice q1 m1 r1) (y := .slice q2 m2 r2) (z := .slice q3 m3 r3) OX4.out)
          have SU5 := Lib.hid (SlT.set3 SU4.out numU OX4.out (.slice q1 m1 r1) (.slice q2 m2 r2) (.slice q3 m3 r3))
          have SG5 := Lib.hid (SlT.set3 SG4.out numG OX4.out (.slice q1 m1 r1) (.slice q2 m2 r2) (.slice q3 m3 r3))
          have SA5 := Lib.hid (SlT.set3 SA4.out numA OX4.out (.slice q1 m1 r1) (.slice q2 m2 r2) (.slice q3 m3 r3))
          have ZU5 := Lib.hid (SlT.set3 ZU.out numU OX4.out (.slice q1 m1 r1) (.slice q2 m2 r2) (.slice q3 m3 r3))
          have ZG5 := Lib.hid (SlT.set3 ZG.out numG OX4.out (.slice q1 m1 r1) (.slice q2 m2 r2) (.slice q3 m3 r3))
          have ZA5 := Lib.hid (SlT.set3 ZA.out numA OX4.out (.slice q1 m1 r1) (.slice q2 m2 r2) (.slice q3 m3 r3))
          have BL5 := Lib.hid (below_set3 (x := .slice q1 m1 r1) (y := .slice q2 m2 r2) (z := .slice q3 m3 r3) BL4.out (show w.heap.size ≤ wr.heap.size + 1 by omega))
          generalize (((w4.setCell ⟨wr.heap.size + 1, 0, none⟩ (.slice q1 m1 r1)).setCell ⟨wr.heap.size + 1, 1, none⟩ (.slice q2 m2 r2)).setCell ⟨wr.heap.size + 1, 2, none⟩ (.slice q3 m3 r3)) = w5 at OT5 OL5 OX5 SU5 SG5 SA5 ZU5 ZG5 ZA5 BL5 ⊢
          clear cT0 cT1 cT2 fT zT cX0 cX1 cX2 fX zX OT4 OL4 OX4 SU4 SG4 SA4 BL4 ZU ZG ZA
          obtain ⟨cT0, cT1, cT2, fT, zT⟩ := own3 OT5.out
          obtain ⟨cX0, cX1, cX2, fX, zX⟩ := own3 OX5.out
          go_upto_region 18 with fail
          generalize w5 = w6 at *
          clear cT0 cT1 cT2 fT zT cX0 cX1 cX2 fX zX OX5 ZU5 ZG5 ZA5
          obtain ⟨UU, hUU⟩ : ∃ UU, UU = us := ⟨_, rfl⟩
          obtain ⟨GG, hGG⟩ : ∃ GG, GG = gs := ⟨_, rfl⟩
          obtain ⟨AA, hAA⟩ : ∃ AA, AA = ks := ⟨_, rfl⟩
          have HVN := Lib.hid (show Val N D UU GG AA from by rw [hUU, hGG, hAA]; exact HVAL.out)
          have TU := Lib.hid (show SlU w6 (.slice p1 n1 c1) UU from by rw [hUU]; exact SU5.out)
          have TG := Lib.hid (show SlG w6 (.slice p2 n2 c2) GG from by rw [hGG]; exact SG5.out)
          have TA := Lib.hid (show SlA w6 (.slice p3 n3 c3) AA from by rw [hAA]; exact SA5.out)
          have oT := OT5
          have oL := OL5
          have bel := BL5
          clear hUU hGG hAA SU5 SG5 SA5 OT5 OL5 BL5
          have HV2 := Lib.hid (HVN.out)
          have hn24b := HV2.out.n24
          have hd60 := (layB_iff.1 HV2.out.lay).2
          have e1 := TU.out.form UU.length rfl
          obtain ⟨_, _, f0, _, _, _⟩ := e1
          injection f0 with f1 f2 f3
          subst f2
          clear f1 f3
          have e1 := TG.out.form GG.length rfl
          obtain ⟨_, _, f0, _, _, _⟩ := e1
          injection f0 with f1 f2 f3
          subst f2
          clear f1 f3
          obtain ⟨t0, t1, t2, fT, zT⟩ := own3 oT.out
          obtain ⟨y0, y1, fL, zL⟩ := own2 oL.out
          go_wp2_with fail
          clear t0 t1 t2 fT zT y0 y1 fL zL
          go_loopw [91] (fun jj wq => ∃ (s : Nat), (s : Int) ≤ D ∧ jj = .int .i64 s ∧ Below w6.heap.size w6 wq) (fun j _ => D.toNat - (intOf j).toNat)
          case atStart => exact ⟨0, by have := hd60.1; omega, rfl, Below.refl _ _⟩
          case round =>
            rename World => wq
            obtain ⟨s, hs, rfl, hbq⟩ := hrel
            have BQ := Lib.hid hbq
            clear hbq
            have s0 : (0 : Int) ≤ (s : Int) := Int.natCast_nonneg _
            by_cases hsD : (s : Int) < D
            · have oTq := Lib.hid (oT.out.below BQ.out)
              obtain ⟨t0, t1, t2, fT, zT⟩ := own3 oTq.out
              have HCN := Lib.hid (once_cnt HV2.out (s : Int))
              have hd60b := hd60.2
              go_wp2_with fail
              go_loopw [13, 97] (fun nn ee wz => ∃ (e : Nat), e ≤ UU.length ∧ ee = .int .i64 e ∧ nn = .int .i64 ((UU.take e).countP (fun d => d.s == (s : Int)) : Nat) ∧ Below wq.heap.size wq wz) (fun _ e _ => UU.length - (intOf e).toNat)
              case atStart => exact ⟨0, by omega, rfl, by simp, Below.refl _ _⟩
              case round =>
                rename World => wp
                clear t0 t1 t2 fT zT
                obtain ⟨e, he, rfl, rfl, hbp⟩ := hrel
                have BP := Lib.hid hbp
                clear hbp
                have oTp := Lib.hid (oTq.out.below BP.out)
                obtain ⟨t0, t1, t2, fT, zT⟩ := own3 oTp.out
                have BT := Lib.hid (belowTo BQ.out BP.out BQ.out.size)
                have e0 : (0 : Int) ≤ (e : Int) := Int.natCast_nonneg _
                have hcu := cnt_le (fun d => d.s == (s : Int)) UU e
                have hcl := List.countP_le_length (p := (fun d => d.s == (s : Int))) (l := UU)
                have hcz : (0 : Int) ≤ ((UU.take e).countP (fun d => d.s == (s : Int)) : Nat) := Int.natCast_nonneg _
                by_cases hle : e < UU.length
                · obtain ⟨a, b', off', ha, rfl, _, _, a0, a1, a2, a3⟩ := TU.out.atU BT.out hle
                  have e1 : (e : Int) < (UU.length : Int) := by omega
                  have hcw : ((UU.take e).countP (fun d => d.s == (s : Int)) : Nat) < 1000 := by omega
                  have HA := Lib.hid (cnt_snoc (q := (fun d => d.s == (s : Int))) ha)
                  clear ha
                  have BP2 := Lib.hid (BP.out.alloc BP.out.size (.cells #[.int .i64 a.s, .int .i64 a.o, .int .i64 a.p, .int .i64 a.m] 32))
                  cases hq : (a.s == (s : Int)) with
                  | true =>
                    have HQ := Lib.hid hq
                    go_wp2_with fail
                    go_roundw
                    case rel => exact ⟨e + 1, by omega, by go_num, by rw [HA.out, HQ.out]; go_num, BP2.out⟩
                    case measure => simp [intOf]; omega
                  | false =>
                    have HQ := Lib.hid hq
                    go_wp2_with fail
                    go_roundw
                    case rel => exact ⟨e + 1, by omega, by go_num, by rw [HA.out, HQ.out]; simp, BP2.out⟩
                    case measure => simp [intOf]; omega
                · obtain rfl : e = UU.length := by omega
                  rw [List.take_length]
                  clear hcz hcu hle
                  replace BQ := Lib.hid (belowTo BQ.out BP.out BQ.out.size)
                  clear BT BP
                  have oTq2 := oTp
                  clear oTq oTp
                  have oTq := oTq2
                  clear oTq2
                  go_wp2_with fail
                  go_loopw [13, 112] (fun nn ee wz => ∃ (e : Nat), e ≤ GG.length ∧ ee = .int .i64 e ∧ nn = .int .i64 ((UU.countP (fun d => d.s == (s : Int)) + (GG.take e).countP (fun d => d.s == (s : Int)) : Nat) : Int) ∧ Below wp.heap.size wp wz) (fun _ e _ => GG.length - (intOf e).toNat)
                  case atStart => exact ⟨0, by omega, rfl, by simp, Below.refl _ _⟩
                  case round =>
                    rename World => wp
                    clear t0 t1 t2 fT zT
                    obtain ⟨e, he, rfl, rfl, hbp⟩ := hrel
                    have BP := Lib.hid hbp
                    clear hbp
                    have oTp := Lib.hid (oTq.out.below BP.out)
                    obtain ⟨t0, t1, t2, fT, zT⟩ := own3 oTp.out
                    have BT := Lib.hid (belowTo BQ.out BP.out BQ.out.size)
                    have e0 : (0 : Int) ≤ (e : Int) := Int.natCast_nonneg _
                    have hcu := cnt_le (fun d => d.s == (s : Int)) GG e
                    have hcl := List.countP_le_length (p := (fun d => d.s == (s : Int))) (l := UU)
                    have hcz : (0 : Int) ≤ ((UU.countP (fun d => d.s == (s : Int)) + (GG.take e).countP (fun d => d.s == (s : Int)) : Nat) : Int) := Int.natCast_nonneg _
                    by_cases hle : e < GG.length
                    · obtain ⟨a, b', off', ha, rfl, _, _, a0, a1, a2, a3, a4⟩ := TG.out.atG BT.out hle
                      have e1 : (e : Int) < (GG.length : Int) := by omega
                      have hcw : ((UU.countP (fun d => d.s == (s : Int)) + (GG.take e).countP (fun d => d.s == (s : Int)) : Nat) : Int) < 1000 := by omega
                      have HA := Lib.hid (cnt_snoc (q := (fun d => d.s == (s : Int))) ha)
                      clear ha
                      have BP2 := Lib.hid (BP.out.alloc BP.out.size (.cells #[.int .i64 a.s, .int .i64 a.o, .int .i64 a.p, .int .i64 a.m, .int .i64 a.u] 34))
                      cases hq : (a.s == (s : Int)) with
                      | true =>
                        have HQ := Lib.hid hq
                        go_wp2_with fail
                        go_roundw
                        case rel => exact ⟨e + 1, by omega, by go_num, by rw [HA.out, HQ.out]; go_num, BP2.out⟩
                        case measure => simp [intOf]; omega
                      | false =>
                        have HQ := Lib.hid hq
                        go_wp2_with fail
                        go_roundw
                        case rel => exact ⟨e + 1, by omega, by go_num, by rw [HA.out, HQ.out]; simp, BP2.out⟩
                        case measure => simp [intOf]; omega
                    · obtain rfl : e = GG.length := by omega
                      have HC2 := HCN.out
                      rw [List.take_length] at *
                      cases hb : bsyB (s : Int) UU GG with
                      | true =>
                        rw [hb] at HC2
                        have HB := Lib.hid hb
                        clear hb
                        have hc3 : ((UU.countP (fun d => d.s == (s : Int)) + GG.countP (fun d => d.s == (s : Int)) : Nat) : Int) = 1 := by rw [HC2]; rfl
                        rw [hc3]
                        clear hc3 HC2 HCN hcz hcu hcl
                        go_wp2_with (first | (go_at_call 19; refine (busy_lit _ _ _ UU GG (s : Int) _ (TU.out.below BT.out) (TG.out.below BT.out) true HB.out).mono ?_; rintro e9 w9 ⟨rfl, hb9⟩; have B9 := Lib.hid (belowTo BT.out hb9 BT.out.size); clear hb9) | fail)
                        go_roundw
                        case rel => exact ⟨s + 1, by omega, by go_num, B9.out⟩
                        case measure => simp [intOf]; omega
                      | false =>
                        rw [hb] at HC2
                        have HB := Lib.hid hb
                        clear hb
                        have hc3 : ((UU.countP (fun d => d.s == (s : Int)) + GG.countP (fun d => d.s == (s : Int)) : Nat) : Int) = 0 := by rw [HC2]; rfl
                        rw [hc3]
                        clear hc3 HC2 HCN hcz hcu hcl
                        go_wp2_with (first | (go_at_call 19; refine (busy_lit _ _ _ UU GG (s : Int) _ (TU.out.below BT.out) (TG.out.below BT.out) false HB.out).mono ?_; rintro e9 w9 ⟨rfl, hb9⟩; have B9 := Lib.hid (belowTo BT.out hb9 BT.out.size); clear hb9) | fail)
                        go_roundw
                        case rel => exact ⟨s + 1, by omega, by go_num, B9.out⟩
                        case measure => simp [intOf]; omega
            · have hs9 : (s : Int) = D := by omega
              go_wp2_with fail
              go_roundw
              case rel => exact ⟨i + 1, UU, GG, AA, _, _, _, _, _, _, _, _, _, by omega, by go_num, HV2.out, oT.out.below BQ.out, oL.out.below BQ.out, TU.out.below BQ.out, TG.out.below BQ.out, TA.out.below BQ.out, belowTo bel.out BQ.out bel.out.size⟩
              case measure => simp [intOf]; omega
      · by_cases hE : agE N D us gs ks ⟨d.s, d.o, d.p, d.f, d.f⟩ = 0
        · have HE := Lib.hid hE
          clear hE
          have hwz := BLr.out.size
          obtain ⟨cT0, cT1, cT2, fT, zT⟩ := own3 OTx.out
          obtain ⟨cL0, cL1, fL, zL⟩ := own2 OLx.out
          obtain ⟨cS0, cS1, cS2, cS3, cS4, fS, zS⟩ := own5 OSx.out
          obtain ⟨cX0, cX1, cX2, fX, zX⟩ := own3 OXx.out
          go_wp2_with fail
          refine (addg_lit _ _ _ us gs ks N D _ SUx.out SGx.out SAx.out ⟨d.s, d.o, d.p, d.f, d.f⟩ (by omega) (by omega) (by omega) 0 HE.out).mono ?_
          rintro e w4 ⟨v1, v2, v3, rfl, z1, z2, z3, hb⟩
          have ZU := Lib.hid z1
          have ZG := Lib.hid z2
          have ZA := Lib.hid z3
          clear z1 z2 z3
          obtain ⟨q1, m1, r1, f0⟩ := ZU.out.slc
          subst f0
          obtain ⟨q2, m2, r2, f0⟩ := ZG.out.slc
          subst f0
          obtain ⟨q3, m3, r3, f0⟩ := ZA.out.slc
          subst f0
          have OT4 := Lib.hid (OTx.out.below hb)
          have OL4 := Lib.hid (OLx.out.below hb)
          have OX4 := Lib.hid (OXx.out.below hb)
          have SU4 := Lib.hid (SUx.out.below hb)
          have SG4 := Lib.hid (SGx.out.below hb)
          have SA4 := Lib.hid (SAx.out.below hb)
          have BL4 := Lib.hid (belowTo BLx.out hb BLx.out.size)
          clear hb cT0 cT1 cT2 fT zT cL0 cL1 fL zL cS0 cS1 cS2 cS3 cS4 fS zS cX0 cX1 cX2 fX zX t0 t1 t2 y0 y1
          clear OTx OLx OSx OXx SUx SGx SAx BLx OTr OLr SUr SGr SAr
          obtain ⟨cT0, cT1, cT2, fT, zT⟩ := own3 OT4.out
          obtain ⟨cX0, cX1, cX2, fX, zX⟩ := own3 OX4.out
          have nTX : ¬ w.heap.size = wr.heap.size + 1 := by omega
          have nLX : ¬ w.heap.size + 1 = wr.heap.size + 1 := by have := OL4.out.lt; have h9 := zL0; omega
          go_upto_region 16 with fail
          have OT5 := Lib.hid (((OT4.out.other (a := ⟨wr.heap.size + 1, 0, none⟩) (by first | (simp; done) | (simp; omega)) (.slice q1 m1 r1)).other (a := ⟨wr.heap.size + 1, 1, none⟩) (by first | (simp; done) | (simp; omega)) (.slice q2 m2 r2)).other (a := ⟨wr.heap.size + 1, 2, none⟩) (by first | (simp; done) | (simp; omega)) (.slice q3 m3 r3))
          have OL5 := Lib.hid (((OL4.out.other (a := ⟨wr.heap.size + 1, 0, none⟩) (by first | (simp; done) | (simp; omega)) (.slice q1 m1 r1)).other (a := ⟨wr.heap.size + 1, 1, none⟩) (by first | (simp; done) | (simp; omega)) (.slice q2 m2 r2)).other (a := ⟨wr.heap.size + 1, 2, none⟩) (by first | (simp; done) | (simp; omega)) (.slice q3 m3 r3))
          have OX5 := Lib.hid (own_set3 (x := .slice q1 m1 r1) (y := .slice q2 m2 r2) (z := .slice q3 m3 r3) OX4.out)
          have SU5 := Lib.hid (SlT.set3 SU4.out numU OX4.out (.slice q1 m1 r1) (.slice q2 m2 r2) (.slice q3 m3 r3))
          have SG5 := Lib.hid (SlT.set3 SG4.out numG OX4.out (.slice q1 m1 r1) (.slice q2 m2 r2) (.slice q3 m3 r3))
          have SA5 := Lib.hid (SlT.set3 SA4.out numA OX4.out (.slice q1 m1 r1) (.slice q2 m2 r2) (.slice q3 m3 r3))
          have ZU5 := Lib.hid (SlT.set3 ZU.out numU OX4.out (.slice q1 m1 r1) (.slice q2 m2 r2) (.slice q3 m3 r3))
          have ZG5 := Lib.hid (SlT.set3 ZG.out numG OX4.out (.slice q1 m1 r1) (.slice q2 m2 r2) (.slice q3 m3 r3))
          have ZA5 := Lib.hid (SlT.set3 ZA.out numA OX4.out (.slice q1 m1 r1) (.slice q2 m2 r2) (.slice q3 m3 r3))
          have BL5 := Lib.hid (below_set3 (x := .slice q1 m1 r1) (y := .slice q2 m2 r2) (z := .slice q3 m3 r3) BL4.out (show w.heap.size ≤ wr.heap.size + 1 by omega))
          generalize (((w4.setCell ⟨wr.heap.size + 1, 0, none⟩ (.slice q1 m1 r1)).setCell ⟨wr.heap.size + 1, 1, none⟩ (.slice q2 m2 r2)).setCell ⟨wr.heap.size + 1, 2, none⟩ (.slice q3 m3 r3)) = w5 at OT5 OL5 OX5 SU5 SG5 SA5 ZU5 ZG5 ZA5 BL5 ⊢
          clear cT0 cT1 cT2 fT zT cX0 cX1 cX2 fX zX OT4 OL4 OX4 SU4 SG4 SA4 BL4 ZU ZG ZA
          obtain ⟨cT0, cT1, cT2, fT, zT⟩ := own3 OT5.out
          obtain ⟨cX0, cX1, cX2, fX, zX⟩ := own3 OX5.out
          go_upto_region 18 with fail
          have OT6 := Lib.hid (own_set3 (x := .slice q1 m1 r1) (y := .slice q2 m2 r2) (z := .slice q3 m3 r3) OT5.out)
          have OL6 := Lib.hid (((OL5.out.other (a := ⟨w.heap.size, 0, none⟩) (by first | (simp; done) | (simp; omega)) (.slice q1 m1 r1)).other (a := ⟨w.heap.size, 1, none⟩) (by first | (simp; done) | (simp; omega)) (.slice q2 m2 r2)).other (a := ⟨w.heap.size, 2, none⟩) (by first | (simp; done) | (simp; omega)) (.slice q3 m3 r3))
          have ZU6 := Lib.hid (SlT.set3 ZU5.out numU OT5.out (.slice q1 m1 r1) (.slice q2 m2 r2) (.slice q3 m3 r3))
          have ZG6 := Lib.hid (SlT.set3 ZG5.out numG OT5.out (.slice q1 m1 r1) (.slice q2 m2 r2) (.slice q3 m3 r3))
          have ZA6 := Lib.hid (SlT.set3 ZA5.out numA OT5.out (.slice q1 m1 r1) (.slice q2 m2 r2) (.slice q3 m3 r3))
          have BL6 := Lib.hid (below_set3 (x := .slice q1 m1 r1) (y := .slice q2 m2 r2) (z := .slice q3 m3 r3) BL5.out (Nat.le_refl w.heap.size))
          generalize (((w5.setCell ⟨w.heap.size, 0, none⟩ (.slice q1 m1 r1)).setCell ⟨w.heap.size, 1, none⟩ (.slice q2 m2 r2)).setCell ⟨w.heap.size, 2, none⟩ (.slice q3 m3 r3)) = w6 at OT6 OL6 ZU6 ZG6 ZA6 BL6 ⊢
          clear cT0 cT1 cT2 fT zT cX0 cX1 cX2 fX zX OT5 OL5 OX5 SU5 SG5 SA5 ZU5 ZG5 ZA5 BL5
          obtain ⟨UU, hUU⟩ : ∃ UU, UU = us := ⟨_, rfl⟩
          obtain ⟨GG, hGG⟩ : ∃ GG, GG = (adG ⟨d.s, d.o, d.p, d.f, d.f⟩ gs) := ⟨_, rfl⟩
          obtain ⟨AA, hAA⟩ : ∃ AA, AA = (una d.s ks) := ⟨_, rfl⟩
          have HVN := Lib.hid (show Val N D UU GG AA from by rw [hUU, hGG, hAA]; exact (by obtain ⟨h1, h2, h3, h4⟩ := agE_ok HE.out; exact val_addG h1 h2 h3 h4))
          have TU := Lib.hid (show SlU w6 (.slice q1 m1 r1) UU from by rw [hUU]; exact ZU6.out)
          have TG := Lib.hid (show SlG w6 (.slice q2 m2 r2) GG from by rw [hGG]; exact ZG6.out)
          have TA := Lib.hid (show SlA w6 (.slice q3 m3 r3) AA from by rw [hAA]; exact ZA6.out)
          have oT := OT6
          have oL := OL6
          have bel := BL6
          clear hUU hGG hAA ZU6 ZG6 ZA6 OT6 OL6 BL6
          have HV2 := Lib.hid (HVN.out)
          have hn24b := HV2.out.n24
          have hd60 := (layB_iff.1 HV2.out.lay).2
          have e1 := TU.out.form UU.length rfl
          obtain ⟨_, _, f0, _, _, _⟩ := e1
          injection f0 with f1 f2 f3
          subst f2
          clear f1 f3
          have e1 := TG.out.form GG.length rfl
          obtain ⟨_, _, f0, _, _, _⟩ := e1
          injection f0 with f1 f2 f3
          subst f2
          clear f1 f3
          obtain ⟨t0, t1, t2, fT, zT⟩ := own3 oT.out
          obtain ⟨y0, y1, fL, zL⟩ := own2 oL.out
          go_wp2_with fail
          clear t0 t1 t2 fT zT y0 y1 fL zL
          go_loopw [91] (fun jj wq => ∃ (s : Nat), (s : Int) ≤ D ∧ jj = .int .i64 s ∧ Below w6.heap.size w6 wq) (fun j _ => D.toNat - (intOf j).toNat)
          case atStart => exact ⟨0, by have := hd60.1; omega, rfl, Below.refl _ _⟩
          case round =>
            rename World => wq
            obtain ⟨s, hs, rfl, hbq⟩ := hrel
            have BQ := Lib.hid hbq
            clear hbq
            have s0 : (0 : Int) ≤ (s : Int) := Int.natCast_nonneg _
            by_cases hsD : (s : Int) < D
            · have oTq := Lib.hid (oT.out.below BQ.out)
              obtain ⟨t0, t1, t2, fT, zT⟩ := own3 oTq.out
              have HCN := Lib.hid (once_cnt HV2.out (s : Int))
              have hd60b := hd60.2
              go_wp2_with fail
              go_loopw [13, 97] (fun nn ee wz => ∃ (e : Nat), e ≤ UU.length ∧ ee = .int .i64 e ∧ nn = .int .i64 ((UU.take e).countP (fun d => d.s == (s : Int)) : Nat) ∧ Below wq.heap.size wq wz) (fun _ e _ => UU.length - (intOf e).toNat)
              case atStart => exact ⟨0, by omega, rfl, by simp, Below.refl _ _⟩
              case round =>
                rename World => wp
                clear t0 t1 t2 fT zT
                obtain ⟨e, he, rfl, rfl, hbp⟩ := hrel
                have BP := Lib.hid hbp
                clear hbp
                have oTp := Lib.hid (oTq.out.below BP.out)
                obtain ⟨t0, t1, t2, fT, zT⟩ := own3 oTp.out
                have BT := Lib.hid (belowTo BQ.out BP.out BQ.out.size)
                have e0 : (0 : Int) ≤ (e : Int) := Int.natCast_nonneg _
                have hcu := cnt_le (fun d => d.s == (s : Int)) UU e
                have hcl := List.countP_le_length (p := (fun d => d.s == (s : Int))) (l := UU)
                have hcz : (0 : Int) ≤ ((UU.take e).countP (fun d => d.s == (s : Int)) : Nat) := Int.natCast_nonneg _
                by_cases hle : e < UU.length
                · obtain ⟨a, b', off', ha, rfl, _, _, a0, a1, a2, a3⟩ := TU.out.atU BT.out hle
                  have e1 : (e : Int) < (UU.length : Int) := by omega
                  have hcw : ((UU.take e).countP (fun d => d.s == (s : Int)) : Nat) < 1000 := by omega
                  have HA := Lib.hid (cnt_snoc (q := (fun d => d.s == (s : Int))) ha)
                  clear ha
                  have BP2 := Lib.hid (BP.out.alloc BP.out.size (.cells #[.int .i64 a.s, .int .i64 a.o, .int .i64 a.p, .int .i64 a.m] 32))
                  cases hq : (a.s == (s : Int)) with
                  | true =>
                    have HQ := Lib.hid hq
                    go_wp2_with fail
                    go_roundw
                    case rel => exact ⟨e + 1, by omega, by go_num, by rw [HA.out, HQ.out]; go_num, BP2.out⟩
                    case measure => simp [intOf]; omega
                  | false =>
                    have HQ := Lib.hid hq
                    go_wp2_with fail
                    go_roundw
                    case rel => exact ⟨e + 1, by omega, by go_num, by rw [HA.out, HQ.out]; simp, BP2.out⟩
                    case measure => simp [intOf]; omega
                · obtain rfl : e = UU.length := by omega
                  rw [List.take_length]
                  clear hcz hcu hle
                  replace BQ := Lib.hid (belowTo BQ.out BP.out BQ.out.size)
                  clear BT BP
                  have oTq2 := oTp
                  clear oTq oTp
                  have oTq := oTq2
                  clear oTq2
                  go_wp2_with fail
                  go_loopw [13, 112] (fun nn ee wz => ∃ (e : Nat), e ≤ GG.length ∧ ee = .int .i64 e ∧ nn = .int .i64 ((UU.countP (fun d => d.s == (s : Int)) + (GG.take e).countP (fun d => d.s == (s : Int)) : Nat) : Int) ∧ Below wp.heap.size wp wz) (fun _ e _ => GG.length - (intOf e).toNat)
                  case atStart => exact ⟨0, by omega, rfl, by simp, Below.refl _ _⟩
                  case round =>
                    rename World => wp
                    clear t0 t1 t2 fT zT
                    obtain ⟨e, he, rfl, rfl, hbp⟩ := hrel
                    have BP := Lib.hid hbp
                    clear hbp
                    have oTp := Lib.hid (oTq.out.below BP.out)
                    obtain ⟨t0, t1, t2, fT, zT⟩ := own3 oTp.out
                    have BT := Lib.hid (belowTo BQ.out BP.out BQ.out.size)
                    have e0 : (0 : Int) ≤ (e : Int) := Int.natCast_nonneg _
                    have hcu := cnt_le (fun d => d.s == (s : Int)) GG e
                    have hcl := List.countP_le_length (p := (fun d => d.s == (s : Int))) (l := UU)
                    have hcz : (0 : Int) ≤ ((UU.countP (fun d => d.s == (s : Int)) + (GG.take e).countP (fun d => d.s == (s : Int)) : Nat) : Int) := Int.natCast_nonneg _
                    by_cases hle : e < GG.length
                    · obtain ⟨a, b', off', ha, rfl, _, _, a0, a1, a2, a3, a4⟩ := TG.out.atG BT.out hle
                      have e1 : (e : Int) < (GG.length : Int) := by omega
                      have hcw : ((UU.countP (fun d => d.s == (s : Int)) + (GG.take e).countP (fun d => d.s == (s : Int)) : Nat) : Int) < 1000 := by omega
                      have HA := Lib.hid (cnt_snoc (q := (fun d => d.s == (s : Int))) ha)
                      clear ha
                      have BP2 := Lib.hid (BP.out.alloc BP.out.size (.cells #[.int .i64 a.s, .int .i64 a.o, .int .i64 a.p, .int .i64 a.m, .int .i64 a.u] 34))
                      cases hq : (a.s == (s : Int)) with
                      | true =>
                        have HQ := Lib.hid hq
                        go_wp2_with fail
                        go_roundw
                        case rel => exact ⟨e + 1, by omega, by go_num, by rw [HA.out, HQ.out]; go_num, BP2.out⟩
                        case measure => simp [intOf]; omega
                      | false =>
                        have HQ := Lib.hid hq
                        go_wp2_with fail
                        go_roundw
                        case rel => exact ⟨e + 1, by omega, by go_num, by rw [HA.out, HQ.out]; simp, BP2.out⟩
                        case measure => simp [intOf]; omega
                    · obtain rfl : e = GG.length := by omega
                      have HC2 := HCN.out
                      rw [List.take_length] at *
                      cases hb : bsyB (s : Int) UU GG with
                      | true =>
                        rw [hb] at HC2
                        have HB := Lib.hid hb
                        clear hb
                        have hc3 : ((UU.countP (fun d => d.s == (s : Int)) + GG.countP (fun d => d.s == (s : Int)) : Nat) : Int) = 1 := by rw [HC2]; rfl
                        rw [hc3]
                        clear hc3 HC2 HCN hcz hcu hcl
                        go_wp2_with (first | (go_at_call 19; refine (busy_lit _ _ _ UU GG (s : Int) _ (TU.out.below BT.out) (TG.out.below BT.out) true HB.out).mono ?_; rintro e9 w9 ⟨rfl, hb9⟩; have B9 := Lib.hid (belowTo BT.out hb9 BT.out.size); clear hb9) | fail)
                        go_roundw
                        case rel => exact ⟨s + 1, by omega, by go_num, B9.out⟩
                        case measure => simp [intOf]; omega
                      | false =>
                        rw [hb] at HC2
                        have HB := Lib.hid hb
                        clear hb
                        have hc3 : ((UU.countP (fun d => d.s == (s : Int)) + GG.countP (fun d => d.s == (s : Int)) : Nat) : Int) = 0 := by rw [HC2]; rfl
                        rw [hc3]
                        clear hc3 HC2 HCN hcz hcu hcl
                        go_wp2_with (first | (go_at_call 19; refine (busy_lit _ _ _ UU GG (s : Int) _ (TU.out.below BT.out) (TG.out.below BT.out) false HB.out).mono ?_; rintro e9 w9 ⟨rfl, hb9⟩; have B9 := Lib.hid (belowTo BT.out hb9 BT.out.size); clear hb9) | fail)
                        go_roundw
                        case rel => exact ⟨s + 1, by omega, by go_num, B9.out⟩
                        case measure => simp [intOf]; omega
            · have hs9 : (s : Int) = D := by omega
              go_wp2_with fail
              go_roundw
              case rel => exact ⟨i + 1, UU, GG, AA, _, _, _, _, _, _, _, _, _, by omega, by go_num, HV2.out, oT.out.below BQ.out, oL.out.below BQ.out, TU.out.below BQ.out, TG.out.below BQ.out, TA.out.below BQ.out, belowTo bel.out BQ.out bel.out.size⟩
              case measure => simp [intOf]; omega
        · obtain ⟨E, hE2⟩ : ∃ E, agE N D us gs ks ⟨d.s, d.o, d.p, d.f, d.f⟩ = E := ⟨_, rfl⟩
          rw [hE2] at hE
          have HE := Lib.hid hE2
          have hE3 : (E == 0) = false := by simpa using hE
          clear hE2
          have hwz := BLr.out.size
          obtain ⟨cT0, cT1, cT2, fT, zT⟩ := own3 OTx.out
          obtain ⟨cL0, cL1, fL, zL⟩ := own2 OLx.out
          obtain ⟨cS0, cS1, cS2, cS3, cS4, fS, zS⟩ := own5 OSx.out
          obtain ⟨cX0, cX1, cX2, fX, zX⟩ := own3 OXx.out
          go_wp2_with fail
          refine (addg_lit _ _ _ us gs ks N D _ SUx.out SGx.out SAx.out ⟨d.s, d.o, d.p, d.f, d.f⟩ (by omega) (by omega) (by omega) E HE.out).mono ?_
          rintro e w4 ⟨v1, v2, v3, rfl, z1, z2, z3, hb⟩
          have ZU := Lib.hid z1
          have ZG := Lib.hid z2
          have ZA := Lib.hid z3
          clear z1 z2 z3
          obtain ⟨q1, m1, r1, f0⟩ := ZU.out.slc
          subst f0
          obtain ⟨q2, m2, r2, f0⟩ := ZG.out.slc
          subst f0
          obtain ⟨q3, m3, r3, f0⟩ := ZA.out.slc
          subst f0
          have OT4 := Lib.hid (OTx.out.below hb)
          have OL4 := Lib.hid (OLx.out.below hb)
          have OX4 := Lib.hid (OXx.out.below hb)
          have SU4 := Lib.hid (SUx.out.below hb)
          have SG4 := Lib.hid (SGx.out.below hb)
          have SA4 := Lib.hid (SAx.out.below hb)
          have BL4 := Lib.hid (belowTo BLx.out hb BLx.out.size)
          clear hb cT0 cT1 cT2 fT zT cL0 cL1 fL zL cS0 cS1 cS2 cS3 cS4 fS zS cX0 cX1 cX2 fX zX t0 t1 t2 y0 y1
          clear OTx OLx OSx OXx SUx SGx SAx BLx OTr OLr SUr SGr SAr
          obtain ⟨cT0, cT1, cT2, fT, zT⟩ := own3 OT4.out
          obtain ⟨cX0, cX1, cX2, fX, zX⟩ := own3 OX4.out
          have nTX : ¬ w.heap.size = wr.heap.size + 1 := by omega
          have nLX : ¬ w.heap.size + 1 = wr.heap.size + 1 := by have := OL4.out.lt; have h9 := zL0; omega
          go_upto_region 16 with fail
          have OT5 := Lib.hid (((OT4.out.other (a := ⟨wr.heap.size + 1, 0, none⟩) (by first | (simp; done) | (simp; omega)) (.slice q1 m1 r1)).other (a := ⟨wr.heap.size + 1, 1, none⟩) (by first | (simp; done) | (simp; omega)) (.slice q2 m2 r2)).other (a := ⟨wr.heap.size + 1, 2, none⟩) (by first | (simp; done) | (simp; omega)) (.slice q3 m3 r3))
          have OL5 := Lib.hid (((OL4.out.other (a := ⟨wr.heap.size + 1, 0, none⟩) (by first | (simp; done) | (simp; omega)) (.slice q1 m1 r1)).other (a := ⟨wr.heap.size + 1, 1, none⟩) (by first | (simp; done) | (simp; omega)) (.slice q2 m2 r2)).other (a := ⟨wr.heap.size + 1, 2, none⟩) (by first | (simp; done) | (simp; omega)) (.slice q3 m3 r3))
          have OX5 := Lib.hid (own_set3 (x := .slice q1 m1 r1) (y := .slice q2 m2 r2) (z := .slice q3 m3 r3) OX4.out)
          have SU5 := Lib.hid (SlT.set3 SU4.out numU OX4.out (.slice q1 m1 r1) (.slice q2 m2 r2) (.slice q3 m3 r3))
          have SG5 := Lib.hid (SlT.set3 SG4.out numG OX4.out (.slice q1 m1 r1) (.slice q2 m2 r2) (.slice q3 m3 r3))
          have SA5 := Lib.hid (SlT.set3 SA4.out numA OX4.out (.slice q1 m1 r1) (.slice q2 m2 r2) (.slice q3 m3 r3))
          have ZU5 := Lib.hid (SlT.set3 ZU.out numU OX4.out (.slice q1 m1 r1) (.slice q2 m2 r2) (.slice q3 m3 r3))
          have ZG5 := Lib.hid (SlT.set3 ZG.out numG OX4.out (.slice q1 m1 r1) (.slice q2 m2 r2) (.slice q3 m3 r3))
          have ZA5 := Lib.hid (SlT.set3 ZA.out numA OX4.out (.slice q1 m1 r1) (.slice q2 m2 r2) (.slice q3 m3 r3))
          have BL5 := Lib.hid (below_set3 (x := .slice q1 m1 r1) (y := .slice q2 m2 r2) (z := .slice q3 m3 r3) BL4.out (show w.heap.size ≤ wr.heap.size + 1 by omega))
          generalize (((w4.setCell ⟨wr.heap.size + 1, 0, none⟩ (.slice q1 m1 r1)).setCell ⟨wr.heap.size + 1, 1, none⟩ (.slice q2 m2 r2)).setCell ⟨wr.heap.size + 1, 2, none⟩ (.slice q3 m3 r3)) = w5 at OT5 OL5 OX5 SU5 SG5 SA5 ZU5 ZG5 ZA5 BL5 ⊢
          clear cT0 cT1 cT2 fT zT cX0 cX1 cX2 fX zX OT4 OL4 OX4 SU4 SG4 SA4 BL4 ZU ZG ZA
          obtain ⟨cT0, cT1, cT2, fT, zT⟩ := own3 OT5.out
          obtain ⟨cX0, cX1, cX2, fX, zX⟩ := own3 OX5.out
          go_upto_region 18 with fail
          generalize w5 = w6 at *
          clear cT0 cT1 cT2 fT zT cX0 cX1 cX2 fX zX OX5 ZU5 ZG5 ZA5
          obtain ⟨UU, hUU⟩ : ∃ UU, UU = us := ⟨_, rfl⟩
          obtain ⟨GG, hGG⟩ : ∃ GG, GG = gs := ⟨_, rfl⟩
          obtain ⟨AA, hAA⟩ : ∃ AA, AA = ks := ⟨_, rfl⟩
          have HVN := Lib.hid (show Val N D UU GG AA from by rw [hUU, hGG, hAA]; exact HVAL.out)
          have TU := Lib.hid (show SlU w6 (.slice p1 n1 c1) UU from by rw [hUU]; exact SU5.out)
          have TG := Lib.hid (show SlG w6 (.slice p2 n2 c2) GG from by rw [hGG]; exact SG5.out)
          have TA := Lib.hid (show SlA w6 (.slice p3 n3 c3) AA from by rw [hAA]; exact SA5.out)
          have oT := OT5
          have oL := OL5
          have bel := BL5
          clear hUU hGG hAA SU5 SG5 SA5 OT5 OL5 BL5
          have HV2 := Lib.hid (HVN.out)
          have hn24b := HV2.out.n24
          have hd60 := (layB_iff.1 HV2.out.lay).2
          have e1 := TU.out.form UU.length rfl
          obtain ⟨_, _, f0, _, _, _⟩ := e1
          injection f0 with f1 f2 f3
          subst f2
          clear f1 f3
          have e1 := TG.out.form GG.length rfl
          obtain ⟨_, _, f0, _, _, _⟩ := e1
          injection f0 with f1 f2 f3
          subst f2
          clear f1 f3
          obtain ⟨t0, t1, t2, fT, zT⟩ := own3 oT.out
          obtain ⟨y0, y1, fL, zL⟩ := own2 oL.out
          go_wp2_with fail
          clear t0 t1 t2 fT zT y0 y1 fL zL
          go_loopw [91] (fun jj wq => ∃ (s : Nat), (s : Int) ≤ D ∧ jj = .int .i64 s ∧ Below w6.heap.size w6 wq) (fun j _ => D.toNat - (intOf j).toNat)
          case atStart => exact ⟨0, by have := hd60.1; omega, rfl, Below.refl _ _⟩
          case round =>
            rename World => wq
            obtain ⟨s, hs, rfl, hbq⟩ := hrel
            have BQ := Lib.hid hbq
            clear hbq
            have s0 : (0 : Int) ≤ (s : Int) := Int.natCast_nonneg _
            by_cases hsD : (s : Int) < D
            · have oTq := Lib.hid (oT.out.below BQ.out)
              obtain ⟨t0, t1, t2, fT, zT⟩ := own3 oTq.out
              have HCN := Lib.hid (once_cnt HV2.out (s : Int))
              have hd60b := hd60.2
              go_wp2_with fail
              go_loopw [13, 97] (fun nn ee wz => ∃ (e : Nat), e ≤ UU.length ∧ ee = .int .i64 e ∧ nn = .int .i64 ((UU.take e).countP (fun d => d.s == (s : Int)) : Nat) ∧ Below wq.heap.size wq wz) (fun _ e _ => UU.length - (intOf e).toNat)
              case atStart => exact ⟨0, by omega, rfl, by simp, Below.refl _ _⟩
              case round =>
                rename World => wp
                clear t0 t1 t2 fT zT
                obtain ⟨e, he, rfl, rfl, hbp⟩ := hrel
                have BP := Lib.hid hbp
                clear hbp
                have oTp := Lib.hid (oTq.out.below BP.out)
                obtain ⟨t0, t1, t2, fT, zT⟩ := own3 oTp.out
                have BT := Lib.hid (belowTo BQ.out BP.out BQ.out.size)
                have e0 : (0 : Int) ≤ (e : Int) := Int.natCast_nonneg _
                have hcu := cnt_le (fun d => d.s == (s : Int)) UU e
                have hcl := List.countP_le_length (p := (fun d => d.s == (s : Int))) (l := UU)
                have hcz : (0 : Int) ≤ ((UU.take e).countP (fun d => d.s == (s : Int)) : Nat) := Int.natCast_nonneg _
                by_cases hle : e < UU.length
                · obtain ⟨a, b', off', ha, rfl, _, _, a0, a1, a2, a3⟩ := TU.out.atU BT.out hle
                  have e1 : (e : Int) < (UU.length : Int) := by omega
                  have hcw : ((UU.take e).countP (fun d => d.s == (s : Int)) : Nat) < 1000 := by omega
                  have HA := Lib.hid (cnt_snoc (q := (fun d => d.s == (s : Int))) ha)
                  clear ha
                  have BP2 := Lib.hid (BP.out.alloc BP.out.size (.cells #[.int .i64 a.s, .int .i64 a.o, .int .i64 a.p, .int .i64 a.m] 32))
                  cases hq : (a.s == (s : Int)) with
                  | true =>
                    have HQ := Lib.hid hq
                    go_wp2_with fail
                    go_roundw
                    case rel => exact ⟨e + 1, by omega, by go_num, by rw [HA.out, HQ.out]; go_num, BP2.out⟩
                    case measure => simp [intOf]; omega
                  | false =>
                    have HQ := Lib.hid hq
                    go_wp2_with fail
                    go_roundw
                    case rel => exact ⟨e + 1, by omega, by go_num, by rw [HA.out, HQ.out]; simp, BP2.out⟩
                    case measure => simp [intOf]; omega
                · obtain rfl : e = UU.length := by omega
                  rw [List.take_length]
                  clear hcz hcu hle
                  replace BQ := Lib.hid (belowTo BQ.out BP.out BQ.out.size)
                  clear BT BP
                  have oTq2 := oTp
                  clear oTq oTp
                  have oTq := oTq2
                  clear oTq2
                  go_wp2_with fail
                  go_loopw [13, 112] (fun nn ee wz => ∃ (e : Nat), e ≤ GG.length ∧ ee = .int .i64 e ∧ nn = .int .i64 ((UU.countP (fun d => d.s == (s : Int)) + (GG.take e).countP (fun d => d.s == (s : Int)) : Nat) : Int) ∧ Below wp.heap.size wp wz) (fun _ e _ => GG.length - (intOf e).toNat)
                  case atStart => exact ⟨0, by omega, rfl, by simp, Below.refl _ _⟩
                  case round =>
                    rename World => wp
                    clear t0 t1 t2 fT zT
                    obtain ⟨e, he, rfl, rfl, hbp⟩ := hrel
                    have BP := Lib.hid hbp
                    clear hbp
                    have oTp := Lib.hid (oTq.out.below BP.out)
                    obtain ⟨t0, t1, t2, fT, zT⟩ := own3 oTp.out
                    have BT := Lib.hid (belowTo BQ.out BP.out BQ.out.size)
                    have e0 : (0 : Int) ≤ (e : Int) := Int.natCast_nonneg _
                    have hcu := cnt_le (fun d => d.s == (s : Int)) GG e
                    have hcl := List.countP_le_length (p := (fun d => d.s == (s : Int))) (l := UU)
                    have hcz : (0 : Int) ≤ ((UU.countP (fun d => d.s == (s : Int)) + (GG.take e).countP (fun d => d.s == (s : Int)) : Nat) : Int) := Int.natCast_nonneg _
                    by_cases hle : e < GG.length
                    · obtain ⟨a, b', off', ha, rfl, _, _, a0, a1, a2, a3, a4⟩ := TG.out.atG BT.out hle
                      have e1 : (e : Int) < (GG.length : Int) := by omega
                      have hcw : ((UU.countP (fun d => d.s == (s : Int)) + (GG.take e).countP (fun d => d.s == (s : Int)) : Nat) : Int) < 1000 := by omega
                      have HA := Lib.hid (cnt_snoc (q := (fun d => d.s == (s : Int))) ha)
                      clear ha
                      have BP2 := Lib.hid (BP.out.alloc BP.out.size (.cells #[.int .i64 a.s, .int .i64 a.o, .int .i64 a.p, .int .i64 a.m, .int .i64 a.u] 34))
                      cases hq : (a.s == (s : Int)) with
                      | true =>
                        have HQ := Lib.hid hq
                        go_wp2_with fail
                        go_roundw
                        case rel => exact ⟨e + 1, by omega, by go_num, by rw [HA.out, HQ.out]; go_num, BP2.out⟩
                        case measure => simp [intOf]; omega
                      | false =>
                        have HQ := Lib.hid hq
                        go_wp2_with fail
                        go_roundw
                        case rel => exact ⟨e + 1, by omega, by go_num, by rw [HA.out, HQ.out]; simp, BP2.out⟩
                        case measure => simp [intOf]; omega
                    · obtain rfl : e = GG.length := by omega
                      have HC2 := HCN.out
                      rw [List.take_length] at *
                      cases hb : bsyB (s : Int) UU GG with
                      | true =>
                        rw [hb] at HC2
                        have HB := Lib.hid hb
                        clear hb
                        have hc3 : ((UU.countP (fun d => d.s == (s : Int)) + GG.countP (fun d => d.s == (s : Int)) : Nat) : Int) = 1 := by rw [HC2]; rfl
                        rw [hc3]
                        clear hc3 HC2 HCN hcz hcu hcl
                        go_wp2_with (first | (go_at_call 19; refine (busy_lit _ _ _ UU GG (s : Int) _ (TU.out.below BT.out) (TG.out.below BT.out) true HB.out).mono ?_; rintro e9 w9 ⟨rfl, hb9⟩; have B9 := Lib.hid (belowTo BT.out hb9 BT.out.size); clear hb9) | fail)
                        go_roundw
                        case rel => exact ⟨s + 1, by omega, by go_num, B9.out⟩
                        case measure => simp [intOf]; omega
                      | false =>
                        rw [hb] at HC2
                        have HB := Lib.hid hb
                        clear hb
                        have hc3 : ((UU.countP (fun d => d.s == (s : Int)) + GG.countP (fun d => d.s == (s : Int)) : Nat) : Int) = 0 := by rw [HC2]; rfl
                        rw [hc3]
                        clear hc3 HC2 HCN hcz hcu hcl
                        go_wp2_with (first | (go_at_call 19; refine (busy_lit _ _ _ UU GG (s : Int) _ (TU.out.below BT.out) (TG.out.below BT.out) false HB.out).mono ?_; rintro e9 w9 ⟨rfl, hb9⟩; have B9 := Lib.hid (belowTo BT.out hb9 BT.out.size); clear hb9) | fail)
                        go_roundw
                        case rel => exact ⟨s + 1, by omega, by go_num, B9.out⟩
                        case measure => simp [intOf]; omega
            · have hs9 : (s : Int) = D := by omega
              go_wp2_with fail
              go_roundw
              case rel => exact ⟨i + 1, UU, GG, AA, _, _, _, _, _, _, _, _, _, by omega, by go_num, HV2.out, oT.out.below BQ.out, oL.out.below BQ.out, TU.out.below BQ.out, TG.out.below BQ.out, TA.out.below BQ.out, belowTo bel.out BQ.out bel.out.size⟩
              case measure => simp [intOf]; omega
      · have hwz := BLr.out.size
        obtain ⟨cT0, cT1, cT2, fT, zT⟩ := own3 OTx.out
        obtain ⟨cL0, cL1, fL, zL⟩ := own2 OLx.out
        obtain ⟨cS0, cS1, cS2, cS3, cS4, fS, zS⟩ := own5 OSx.out
        obtain ⟨cX0, cX1, cX2, fX, zX⟩ := own3 OXx.out
        go_wp2_with fail
        refine (drop_any _ _ _ us gs ks d.s d.o _ SUx.out SGx.out SAx.out (by omega) (by omega) (by omega)).mono ?_
        rintro e w4 ⟨v1, v2, v3, rfl, z1, z2, z3, hb⟩
        have ZU := Lib.hid z1
        have ZG := Lib.hid z2
        have ZA := Lib.hid z3
        clear z1 z2 z3
        obtain ⟨q1, m1, r1, f0⟩ := ZU.out.slc
        subst f0
        obtain ⟨q2, m2, r2, f0⟩ := ZG.out.slc
        subst f0
        obtain ⟨q3, m3, r3, f0⟩ := ZA.out.slc
        subst f0
        have OT4 := Lib.hid (OTx.out.below hb)
        have OL4 := Lib.hid (OLx.out.below hb)
        have OX4 := Lib.hid (OXx.out.below hb)
        have SU4 := Lib.hid (SUx.out.below hb)
        have SG4 := Lib.hid (SGx.out.below hb)
        have SA4 := Lib.hid (SAx.out.below hb)
        have BL4 := Lib.hid (belowTo BLx.out hb BLx.out.size)
        clear hb cT0 cT1 cT2 fT zT cL0 cL1 fL zL cS0 cS1 cS2 cS3 cS4 fS zS cX0 cX1 cX2 fX zX t0 t1 t2 y0 y1
        clear OTx OLx OSx OXx SUx SGx SAx BLx OTr OLr SUr SGr SAr
        obtain ⟨cT0, cT1, cT2, fT, zT⟩ := own3 OT4.out
        obtain ⟨cX0, cX1, cX2, fX, zX⟩ := own3 OX4.out
        have nTX : ¬ w.heap.size = wr.heap.size + 1 := by omega
        have nLX : ¬ w.heap.size + 1 = wr.heap.size + 1 := by have := OL4.out.lt; have h9 := zL0; omega
        go_upto_region 16 with fail
        have OT5 := Lib.hid (((OT4.out.other (a := ⟨wr.heap.size + 1, 0, none⟩) (by first | (simp; done) | (simp; omega)) (.slice q1 m1 r1)).other (a := ⟨wr.heap.size + 1, 1, none⟩) (by first | (simp; done) | (simp; omega)) (.slice q2 m2 r2)).other (a := ⟨wr.heap.size + 1, 2, none⟩) (by first | (simp; done) | (simp; omega)) (.slice q3 m3 r3))
        have OL5 := Lib.hid (((OL4.out.other (a := ⟨wr.heap.size + 1, 0, none⟩) (by first | (simp; done) | (simp; omega)) (.slice q1 m1 r1)).other (a := ⟨wr.heap.size + 1, 1, none⟩) (by first | (simp; done) | (simp; omega)) (.slice q2 m2 r2)).other (a := ⟨wr.heap.size + 1, 2, none⟩) (by first | (simp; done) | (simp; omega)) (.slice q3 m3 r3))
        have OX5 := Lib.hid (own_set3 (x := .slice q1 m1 r1) (y := .slice q2 m2 r2) (z := .slice q3 m3 r3) OX4.out)
        have SU5 := Lib.hid (SlT.set3 SU4.out numU OX4.out (.slice q1 m1 r1) (.slice q2 m2 r2) (.slice q3 m3 r3))
        have SG5 := Lib.hid (SlT.set3 SG4.out numG OX4.out (.slice q1 m1 r1) (.slice q2 m2 r2) (.slice q3 m3 r3))
        have SA5 := Lib.hid (SlT.set3 SA4.out numA OX4.out (.slice q1 m1 r1) (.slice q2 m2 r2) (.slice q3 m3 r3))
        have ZU5 := Lib.hid (SlT.set3 ZU.out numU OX4.out (.slice q1 m1 r1) (.slice q2 m2 r2) (.slice q3 m3 r3))
        have ZG5 := Lib.hid (SlT.set3 ZG.out numG OX4.out (.slice q1 m1 r1) (.slice q2 m2 r2) (.slice q3 m3 r3))
        have ZA5 := Lib.hid (SlT.set3 ZA.out numA OX4.out (.slice q1 m1 r1) (.slice q2 m2 r2) (.slice q3 m3 r3))
        have BL5 := Lib.hid (below_set3 (x := .slice q1 m1 r1) (y := .slice q2 m2 r2) (z := .slice q3 m3 r3) BL4.out (show w.heap.size ≤ wr.heap.size + 1 by omega))
        generalize (((w4.setCell ⟨wr.heap.size + 1, 0, none⟩ (.slice q1 m1 r1)).setCell ⟨wr.heap.size + 1, 1, none⟩ (.slice q2 m2 r2)).setCell ⟨wr.heap.size + 1, 2, none⟩ (.slice q3 m3 r3)) = w5 at OT5 OL5 OX5 SU5 SG5 SA5 ZU5 ZG5 ZA5 BL5 ⊢
        clear cT0 cT1 cT2 fT zT cX0 cX1 cX2 fX zX OT4 OL4 OX4 SU4 SG4 SA4 BL4 ZU ZG ZA
        obtain ⟨cT0, cT1, cT2, fT, zT⟩ := own3 OT5.out
        obtain ⟨cX0, cX1, cX2, fX, zX⟩ := own3 OX5.out
        go_upto_region 18 with fail
        have OT6 := Lib.hid (own_set3 (x := .slice q1 m1 r1) (y := .slice q2 m2 r2) (z := .slice q3 m3 r3) OT5.out)
        have OL6 := Lib.hid (((OL5.out.other (a := ⟨w.heap.size, 0, none⟩) (by first | (simp; done) | (simp; omega)) (.slice q1 m1 r1)).other (a := ⟨w.heap.size, 1, none⟩) (by first | (simp; done) | (simp; omega)) (.slice q2 m2 r2)).other (a := ⟨w.heap.size, 2, none⟩) (by first | (simp; done) | (simp; omega)) (.slice q3 m3 r3))
        have ZU6 := Lib.hid (SlT.set3 ZU5.out numU OT5.out (.slice q1 m1 r1) (.slice q2 m2 r2) (.slice q3 m3 r3))
        have ZG6 := Lib.hid (SlT.set3 ZG5.out numG OT5.out (.slice q1 m1 r1) (.slice q2 m2 r2) (.slice q3 m3 r3))
        have ZA6 := Lib.hid (SlT.set3 ZA5.out numA OT5.out (.slice q1 m1 r1) (.slice q2 m2 r2) (.slice q3 m3 r3))
        have BL6 := Lib.hid (below_set3 (x := .slice q1 m1 r1) (y := .slice q2 m2 r2) (z := .slice q3 m3 r3) BL5.out (Nat.le_refl w.heap.size))
        generalize (((w5.setCell ⟨w.heap.size, 0, none⟩ (.slice q1 m1 r1)).setCell ⟨w.heap.size, 1, none⟩ (.slice q2 m2 r2)).setCell ⟨w.heap.size, 2, none⟩ (.slice q3 m3 r3)) = w6 at OT6 OL6 ZU6 ZG6 ZA6 BL6 ⊢
        clear cT0 cT1 cT2 fT zT cX0 cX1 cX2 fX zX OT5 OL5 OX5 SU5 SG5 SA5 ZU5 ZG5 ZA5 BL5
        obtain ⟨UU, hUU⟩ : ∃ UU, UU = (us.filter (fun e => !(e.s == d.s && e.o == d.o))) := ⟨_, rfl⟩
        obtain ⟨GG, hGG⟩ : ∃ GG, GG = (gs.filter (fun e => !(e.s == d.s && e.o == d.o))) := ⟨_, rfl⟩
        obtain ⟨AA, hAA⟩ : ∃ AA, AA = (ks.filter (fun e => !(e.s == d.s && e.o == d.o))) := ⟨_, rfl⟩
        have HVN := Lib.hid (show Val N D UU GG AA from by rw [hUU, hGG, hAA]; exact (val_sub _ _ _ HVAL.out))
        have TU := Lib.hid (show SlU w6 (.slice q1 m1 r1) UU from by rw [hUU]; exact ZU6.out)
        have TG := Lib.hid (show SlG w6 (.slice q2 m2 r2) GG from by rw [hGG]; exact ZG6.out)
        have TA := Lib.hid (show SlA w6 (.slice q3 m3 r3) AA from by rw [hAA]; exact ZA6.out)
        have oT := OT6
        have oL := OL6
        have bel := BL6
        clear hUU hGG hAA ZU6 ZG6 ZA6 OT6 OL6 BL6
        have HV2 := Lib.hid (HVN.out)
        have hn24b := HV2.out.n24
        have hd60 := (layB_iff.1 HV2.out.lay).2
        have e1 := TU.out.form UU.length rfl
        obtain ⟨_, _, f0, _, _, _⟩ := e1
        injection f0 with f1 f2 f3
        subst f2
        clear f1 f3
        have e1 := TG.out.form GG.length rfl
        obtain ⟨_, _, f0, _, _, _⟩ := e1
        injection f0 with f1 f2 f3
        subst f2
        clear f1 f3
        obtain ⟨t0, t1, t2, fT, zT⟩ := own3 oT.out
        obtain ⟨y0, y1, fL, zL⟩ := own2 oL.out
        go_wp2_with fail
        clear t0 t1 t2 fT zT y0 y1 fL zL
        go_loopw [91] (fun jj wq => ∃ (s : Nat), (s : Int) ≤ D ∧ jj = .int .i64 s ∧ Below w6.heap.size w6 wq) (fun j _ => D.toNat - (intOf j).toNat)
        case atStart => exact ⟨0, by have := hd60.1; omega, rfl, Below.refl _ _⟩
        case round =>
          rename World => wq
          obtain ⟨s, hs, rfl, hbq⟩ := hrel
          have BQ := Lib.hid hbq
          clear hbq
          have s0 : (0 : Int) ≤ (s : Int) := Int.natCast_nonneg _
          by_cases hsD : (s : Int) < D
          · have oTq := Lib.hid (oT.out.below BQ.out)
            obtain ⟨t0, t1, t2, fT, zT⟩ := own3 oTq.out
            have HCN := Lib.hid (once_cnt HV2.out (s : Int))
            have hd60b := hd60.2
            go_wp2_with fail
            go_loopw [13, 97] (fun nn ee wz => ∃ (e : Nat), e ≤ UU.length ∧ ee = .int .i64 e ∧ nn = .int .i64 ((UU.take e).countP (fun d => d.s == (s : Int)) : Nat) ∧ Below wq.heap.size wq wz) (fun _ e _ => UU.length - (intOf e).toNat)
            case atStart => exact ⟨0, by omega, rfl, by simp, Below.refl _ _⟩
            case round =>
              rename World => wp
              clear t0 t1 t2 fT zT
              obtain ⟨e, he, rfl, rfl, hbp⟩ := hrel
              have BP := Lib.hid hbp
              clear hbp
              have oTp := Lib.hid (oTq.out.below BP.out)
              obtain ⟨t0, t1, t2, fT, zT⟩ := own3 oTp.out
              have BT := Lib.hid (belowTo BQ.out BP.out BQ.out.size)
              have e0 : (0 : Int) ≤ (e : Int) := Int.natCast_nonneg _
              have hcu := cnt_le (fun d => d.s == (s : Int)) UU e
              have hcl := List.countP_le_length (p := (fun d => d.s == (s : Int))) (l := UU)
              have hcz : (0 : Int) ≤ ((UU.take e).countP (fun d => d.s == (s : Int)) : Nat) := Int.natCast_nonneg _
              by_cases hle : e < UU.length
              · obtain ⟨a, b', off', ha, rfl, _, _, a0, a1, a2, a3⟩ := TU.out.atU BT.out hle
                have e1 : (e : Int) < (UU.length : Int) := by omega
                have hcw : ((UU.take e).countP (fun d => d.s == (s : Int)) : Nat) < 1000 := by omega
                have HA := Lib.hid (cnt_snoc (q := (fun d => d.s == (s : Int))) ha)
                clear ha
                have BP2 := Lib.hid (BP.out.alloc BP.out.size (.cells #[.int .i64 a.s, .int .i64 a.o, .int .i64 a.p, .int .i64 a.m] 32))
                cases hq : (a.s == (s : Int)) with
                | true =>
                  have HQ := Lib.hid hq
                  go_wp2_with fail
                  go_roundw
                  case rel => exact ⟨e + 1, by omega, by go_num, by rw [HA.out, HQ.out]; go_num, BP2.out⟩
                  case measure => simp [intOf]; omega
                | false =>
                  have HQ := Lib.hid hq
                  go_wp2_with fail
                  go_roundw
                  case rel => exact ⟨e + 1, by omega, by go_num, by rw [HA.out, HQ.out]; simp, BP2.out⟩
                  case measure => simp [intOf]; omega
              · obtain rfl : e = UU.length := by omega
                rw [List.take_length]
                clear hcz hcu hle
                replace BQ := Lib.hid (belowTo BQ.out BP.out BQ.out.size)
                clear BT BP
                have oTq2 := oTp
                clear oTq oTp
                have oTq := oTq2
                clear oTq2
                go_wp2_with fail
                go_loopw [13, 112] (fun nn ee wz => ∃ (e : Nat), e ≤ GG.length ∧ ee = .int .i64 e ∧ nn = .int .i64 ((UU.countP (fun d => d.s == (s : Int)) + (GG.take e).countP (fun d => d.s == (s : Int)) : Nat) : Int) ∧ Below wp.heap.size wp wz) (fun _ e _ => GG.length - (intOf e).toNat)
                case atStart => exact ⟨0, by omega, rfl, by simp, Below.refl _ _⟩
                case round =>
                  rename World => wp
                  clear t0 t1 t2 fT zT
                  obtain ⟨e, he, rfl, rfl, hbp⟩ := hrel
                  have BP := Lib.hid hbp
                  clear hbp
                  have oTp := Lib.hid (oTq.out.below BP.out)
                  obtain ⟨t0, t1, t2, fT, zT⟩ := own3 oTp.out
                  have BT := Lib.hid (belowTo BQ.out BP.out BQ.out.size)
                  have e0 : (0 : Int) ≤ (e : Int) := Int.natCast_nonneg _
                  have hcu := cnt_le (fun d => d.s == (s : Int)) GG e
                  have hcl := List.countP_le_length (p := (fun d => d.s == (s : Int))) (l := UU)
                  have hcz : (0 : Int) ≤ ((UU.countP (fun d => d.s == (s : Int)) + (GG.take e).countP (fun d => d.s == (s : Int)) : Nat) : Int) := Int.natCast_nonneg _
                  by_cases hle : e < GG.length
                  · obtain ⟨a, b', off', ha, rfl, _, _, a0, a1, a2, a3, a4⟩ := TG.out.atG BT.out hle
                    have e1 : (e : Int) < (GG.length : Int) := by omega
                    have hcw : ((UU.countP (fun d => d.s == (s : Int)) + (GG.take e).countP (fun d => d.s == (s : Int)) : Nat) : Int) < 1000 := by omega
                    have HA := Lib.hid (cnt_snoc (q := (fun d => d.s == (s : Int))) ha)
                    clear ha
                    have BP2 := Lib.hid (BP.out.alloc BP.out.size (.cells #[.int .i64 a.s, .int .i64 a.o, .int .i64 a.p, .int .i64 a.m, .int .i64 a.u] 34))
                    cases hq : (a.s == (s : Int)) with
                    | true =>
                      have HQ := Lib.hid hq
                      go_wp2_with fail
                      go_roundw
                      case rel => exact ⟨e + 1, by omega, by go_num, by rw [HA.out, HQ.out]; go_num, BP2.out⟩
                      case measure => simp [intOf]; omega
                    | false =>
                      have HQ := Lib.hid hq
                      go_wp2_with fail
                      go_roundw
                      case rel => exact ⟨e + 1, by omega, by go_num, by rw [HA.out, HQ.out]; simp, BP2.out⟩
                      case measure => simp [intOf]; omega
                  · obtain rfl : e = GG.length := by omega
                    have HC2 := HCN.out
                    rw [List.take_length] at *
                    cases hb : bsyB (s : Int) UU GG with
                    | true =>
                      rw [hb] at HC2
                      have HB := Lib.hid hb
                      clear hb
                      have hc3 : ((UU.countP (fun d => d.s == (s : Int)) + GG.countP (fun d => d.s == (s : Int)) : Nat) : Int) = 1 := by rw [HC2]; rfl
                      rw [hc3]
                      clear hc3 HC2 HCN hcz hcu hcl
                      go_wp2_with (first | (go_at_call 19; refine (busy_lit _ _ _ UU GG (s : Int) _ (TU.out.below BT.out) (TG.out.below BT.out) true HB.out).mono ?_; rintro e9 w9 ⟨rfl, hb9⟩; have B9 := Lib.hid (belowTo BT.out hb9 BT.out.size); clear hb9) | fail)
                      go_roundw
                      case rel => exact ⟨s + 1, by omega, by go_num, B9.out⟩
                      case measure => simp [intOf]; omega
                    | false =>
                      rw [hb] at HC2
                      have HB := Lib.hid hb
                      clear hb
                      have hc3 : ((UU.countP (fun d => d.s == (s : Int)) + GG.countP (fun d => d.s == (s : Int)) : Nat) : Int) = 0 := by rw [HC2]; rfl
                      rw [hc3]
                      clear hc3 HC2 HCN hcz hcu hcl
                      go_wp2_with (first | (go_at_call 19; refine (busy_lit _ _ _ UU GG (s : Int) _ (TU.out.below BT.out) (TG.out.below BT.out) false HB.out).mono ?_; rintro e9 w9 ⟨rfl, hb9⟩; have B9 := Lib.hid (belowTo BT.out hb9 BT.out.size); clear hb9) | fail)
                      go_roundw
                      case rel => exact ⟨s + 1, by omega, by go_num, B9.out⟩
                      case measure => simp [intOf]; omega
          · have hs9 : (s : Int) = D := by omega
            go_wp2_with fail
            go_roundw
            case rel => exact ⟨i + 1, UU, GG, AA, _, _, _, _, _, _, _, _, _, by omega, by go_num, HV2.out, oT.out.below BQ.out, oL.out.below BQ.out, TU.out.below BQ.out, TG.out.below BQ.out, TA.out.below BQ.out, belowTo bel.out BQ.out bel.out.size⟩
            case measure => simp [intOf]; omega
      · have hwz := BLr.out.size
        obtain ⟨cT0, cT1, cT2, fT, zT⟩ := own3 OTx.out
        obtain ⟨cL0, cL1, fL, zL⟩ := own2 OLx.out
        obtain ⟨cS0, cS1, cS2, cS3, cS4, fS, zS⟩ := own5 OSx.out
        obtain ⟨cX0, cX1, cX2, fX, zX⟩ := own3 OXx.out
        go_wp2_with fail
        refine (exp_any _ _ _ us gs ks d.f _ SUx.out SGx.out SAx.out (by omega) (by omega) (by omega)).mono ?_
        rintro e w4 ⟨v1, v2, v3, rfl, z1, z2, z3, hb⟩
        have ZU := Lib.hid z1
        have ZG := Lib.hid z2
        have ZA := Lib.hid z3
        clear z1 z2 z3
        obtain ⟨q1, m1, r1, f0⟩ := ZU.out.slc
        subst f0
        obtain ⟨q2, m2, r2, f0⟩ := ZG.out.slc
        subst f0
        obtain ⟨q3, m3, r3, f0⟩ := ZA.out.slc
        subst f0
        have OT4 := Lib.hid (OTx.out.below hb)
        have OL4 := Lib.hid (OLx.out.below hb)
        have OX4 := Lib.hid (OXx.out.below hb)
        have SU4 := Lib.hid (SUx.out.below hb)
        have SG4 := Lib.hid (SGx.out.below hb)
        have SA4 := Lib.hid (SAx.out.below hb)
        have BL4 := Lib.hid (belowTo BLx.out hb BLx.out.size)
        clear hb cT0 cT1 cT2 fT zT cL0 cL1 fL zL cS0 cS1 cS2 cS3 cS4 fS zS cX0 cX1 cX2 fX zX t0 t1 t2 y0 y1
        clear OTx OLx OSx OXx SUx SGx SAx BLx OTr OLr SUr SGr SAr
        obtain ⟨cT0, cT1, cT2, fT, zT⟩ := own3 OT4.out
        obtain ⟨cX0, cX1, cX2, fX, zX⟩ := own3 OX4.out
        have nTX : ¬ w.heap.size = wr.heap.size + 1 := by omega
        have nLX : ¬ w.heap.size + 1 = wr.heap.size + 1 := by have := OL4.out.lt; have h9 := zL0; omega
        go_upto_region 16 with fail
        have OT5 := Lib.hid (((OT4.out.other (a := ⟨wr.heap.size + 1, 0, none⟩) (by first | (simp; done) | (simp; omega)) (.slice q1 m1 r1)).other (a := ⟨wr.heap.size + 1, 1, none⟩) (by first | (simp; done) | (simp; omega)) (.slice q2 m2 r2)).other (a := ⟨wr.heap.size + 1, 2, none⟩) (by first | (simp; done) | (simp; omega)) (.slice q3 m3 r3))
        have OL5 := Lib.hid (((OL4.out.other (a := ⟨wr.heap.size + 1, 0, none⟩) (by first | (simp; done) | (simp; omega)) (.slice q1 m1 r1)).other (a := ⟨wr.heap.size + 1, 1, none⟩) (by first | (simp; done) | (simp; omega)) (.slice q2 m2 r2)).other (a := ⟨wr.heap.size + 1, 2, none⟩) (by first | (simp; done) | (simp; omega)) (.slice q3 m3 r3))
        have OX5 := Lib.hid (own_set3 (x := .slice q1 m1 r1) (y := .slice q2 m2 r2) (z := .slice q3 m3 r3) OX4.out)
        have SU5 := Lib.hid (SlT.set3 SU4.out numU OX4.out (.slice q1 m1 r1) (.slice q2 m2 r2) (.slice q3 m3 r3))
        have SG5 := Lib.hid (SlT.set3 SG4.out numG OX4.out (.slice q1 m1 r1) (.slice q2 m2 r2) (.slice q3 m3 r3))
        have SA5 := Lib.hid (SlT.set3 SA4.out numA OX4.out (.slice q1 m1 r1) (.slice q2 m2 r2) (.slice q3 m3 r3))
        have ZU5 := Lib.hid (SlT.set3 ZU.out numU OX4.out (.slice q1 m1 r1) (.slice q2 m2 r2) (.slice q3 m3 r3))
        have ZG5 := Lib.hid (SlT.set3 ZG.out numG OX4.out (.slice q1 m1 r1) (.slice q2 m2 r2) (.slice q3 m3 r3))
        have ZA5 := Lib.hid (SlT.set3 ZA.out numA OX4.out (.slice q1 m1 r1) (.slice q2 m2 r2) (.slice q3 m3 r3))
        have BL5 := Lib.hid (below_set3 (x := .slice q1 m1 r1) (y := .slice q2 m2 r2) (z := .slice q3 m3 r3) BL4.out (show w.heap.size ≤ wr.heap.size + 1 by omega))
        generalize (((w4.setCell ⟨wr.heap.size + 1, 0, none⟩ (.slice q1 m1 r1)).setCell ⟨wr.heap.size + 1, 1, none⟩ (.slice q2 m2 r2)).setCell ⟨wr.heap.size + 1, 2, none⟩ (.slice q3 m3 r3)) = w5 at OT5 OL5 OX5 SU5 SG5 SA5 ZU5 ZG5 ZA5 BL5 ⊢
        clear cT0 cT1 cT2 fT zT cX0 cX1 cX2 fX zX OT4 OL4 OX4 SU4 SG4 SA4 BL4 ZU ZG ZA
        obtain ⟨cT0, cT1, cT2, fT, zT⟩ := own3 OT5.out
        obtain ⟨cX0, cX1, cX2, fX, zX⟩ := own3 OX5.out
        go_upto_region 18 with fail
        have OT6 := Lib.hid (own_set3 (x := .slice q1 m1 r1) (y := .slice q2 m2 r2) (z := .slice q3 m3 r3) OT5.out)
        have OL6 := Lib.hid (((OL5.out.other (a := ⟨w.heap.size, 0, none⟩) (by first | (simp; done) | (simp; omega)) (.slice q1 m1 r1)).other (a := ⟨w.heap.size, 1, none⟩) (by first | (simp; done) | (simp; omega)) (.slice q2 m2 r2)).other (a := ⟨w.heap.size, 2, none⟩) (by first | (simp; done) | (simp; omega)) (.slice q3 m3 r3))
        have ZU6 := Lib.hid (SlT.set3 ZU5.out numU OT5.out (.slice q1 m1 r1) (.slice q2 m2 r2) (.slice q3 m3 r3))
        have ZG6 := Lib.hid (SlT.set3 ZG5.out numG OT5.out (.slice q1 m1 r1) (.slice q2 m2 r2) (.slice q3 m3 r3))
        have ZA6 := Lib.hid (SlT.set3 ZA5.out numA OT5.out (.slice q1 m1 r1) (.slice q2 m2 r2) (.slice q3 m3 r3))
        have BL6 := Lib.hid (below_set3 (x := .slice q1 m1 r1) (y := .slice q2 m2 r2) (z := .slice q3 m3 r3) BL5.out (Nat.le_refl w.heap.size))
        generalize (((w5.setCell ⟨w.heap.size, 0, none⟩ (.slice q1 m1 r1)).setCell ⟨w.heap.size, 1, none⟩ (.slice q2 m2 r2)).setCell ⟨w.heap.size, 2, none⟩ (.slice q3 m3 r3)) = w6 at OT6 OL6 ZU6 ZG6 ZA6 BL6 ⊢
        clear cT0 cT1 cT2 fT zT cX0 cX1 cX2 fX zX OT5 OL5 OX5 SU5 SG5 SA5 ZU5 ZG5 ZA5 BL5
        obtain ⟨UU, hUU⟩ : ∃ UU, UU = us := ⟨_, rfl⟩
        obtain ⟨GG, hGG⟩ : ∃ GG, GG = (gs.filter (fun e => !decide (e.u < d.f))) := ⟨_, rfl⟩
        obtain ⟨AA, hAA⟩ : ∃ AA, AA = ks := ⟨_, rfl⟩
        have HVN := Lib.hid (show Val N D UU GG AA from by rw [hUU, hGG, hAA]; exact (val_exp _ HVAL.out))
        have TU := Lib.hid (show SlU w6 (.slice q1 m1 r1) UU from by rw [hUU]; exact ZU6.out)
        have TG := Lib.hid (show SlG w6 (.slice q2 m2 r2) GG from by rw [hGG]; exact ZG6.out)
        have TA := Lib.hid (show SlA w6 (.slice q3 m3 r3) AA from by rw [hAA]; exact ZA6.out)
        have oT := OT6
        have oL := OL6
        have bel := BL6
        clear hUU hGG hAA ZU6 ZG6 ZA6 OT6 OL6 BL6
        have HV2 := Lib.hid (HVN.out)
        have hn24b := HV2.out.n24
        have hd60 := (layB_iff.1 HV2.out.lay).2
        have e1 := TU.out.form UU.length rfl
        obtain ⟨_, _, f0, _, _, _⟩ := e1
        injection f0 with f1 f2 f3
        subst f2
        clear f1 f3
        have e1 := TG.out.form GG.length rfl
        obtain ⟨_, _, f0, _, _, _⟩ := e1
        injection f0 with f1 f2 f3
        subst f2
        clear f1 f3
        obtain ⟨t0, t1, t2, fT, zT⟩ := own3 oT.out
        obtain ⟨y0, y1, fL, zL⟩ := own2 oL.out
        go_wp2_with fail
        clear t0 t1 t2 fT zT y0 y1 fL zL
        go_loopw [91] (fun jj wq => ∃ (s : Nat), (s : Int) ≤ D ∧ jj = .int .i64 s ∧ Below w6.heap.size w6 wq) (fun j _ => D.toNat - (intOf j).toNat)
        case atStart => exact ⟨0, by have := hd60.1; omega, rfl, Below.refl _ _⟩
        case round =>
          rename World => wq
          obtain ⟨s, hs, rfl, hbq⟩ := hrel
          have BQ := Lib.hid hbq
          clear hbq
          have s0 : (0 : Int) ≤ (s : Int) := Int.natCast_nonneg _
          by_cases hsD : (s : Int) < D
          · have oTq := Lib.hid (oT.out.below BQ.out)
            obtain ⟨t0, t1, t2, fT, zT⟩ := own3 oTq.out
            have HCN := Lib.hid (once_cnt HV2.out (s : Int))
            have hd60b := hd60.2
            go_wp2_with fail
            go_loopw [13, 97] (fun nn ee wz => ∃ (e : Nat), e ≤ UU.length ∧ ee = .int .i64 e ∧ nn = .int .i64 ((UU.take e).countP (fun d => d.s == (s : Int)) : Nat) ∧ Below wq.heap.size wq wz) (fun _ e _ => UU.length - (intOf e).toNat)
            case atStart => exact ⟨0, by omega, rfl, by simp, Below.refl _ _⟩
            case round =>
              rename World => wp
              clear t0 t1 t2 fT zT
              obtain ⟨e, he, rfl, rfl, hbp⟩ := hrel
              have BP := Lib.hid hbp
              clear hbp
              have oTp := Lib.hid (oTq.out.below BP.out)
              obtain ⟨t0, t1, t2, fT, zT⟩ := own3 oTp.out
              have BT := Lib.hid (belowTo BQ.out BP.out BQ.out.size)
              have e0 : (0 : Int) ≤ (e : Int) := Int.natCast_nonneg _
              have hcu := cnt_le (fun d => d.s == (s : Int)) UU e
              have hcl := List.countP_le_length (p := (fun d => d.s == (s : Int))) (l := UU)
              have hcz : (0 : Int) ≤ ((UU.take e).countP (fun d => d.s == (s : Int)) : Nat) := Int.natCast_nonneg _
              by_cases hle : e < UU.length
              · obtain ⟨a, b', off', ha, rfl, _, _, a0, a1, a2, a3⟩ := TU.out.atU BT.out hle
                have e1 : (e : Int) < (UU.length : Int) := by omega
                have hcw : ((UU.take e).countP (fun d => d.s == (s : Int)) : Nat) < 1000 := by omega
                have HA := Lib.hid (cnt_snoc (q := (fun d => d.s == (s : Int))) ha)
                clear ha
                have BP2 := Lib.hid (BP.out.alloc BP.out.size (.cells #[.int .i64 a.s, .int .i64 a.o, .int .i64 a.p, .int .i64 a.m] 32))
                cases hq : (a.s == (s : Int)) with
                | true =>
                  have HQ := Lib.hid hq
                  go_wp2_with fail
                  go_roundw
                  case rel => exact ⟨e + 1, by omega, by go_num, by rw [HA.out, HQ.out]; go_num, BP2.out⟩
                  case measure => simp [intOf]; omega
                | false =>
                  have HQ := Lib.hid hq
                  go_wp2_with fail
                  go_roundw
                  case rel => exact ⟨e + 1, by omega, by go_num, by rw [HA.out, HQ.out]; simp, BP2.out⟩
                  case measure => simp [intOf]; omega
              · obtain rfl : e = UU.length := by omega
                rw [List.take_length]
                clear hcz hcu hle
                replace BQ := Lib.hid (belowTo BQ.out BP.out BQ.out.size)
                clear BT BP
                have oTq2 := oTp
                clear oTq oTp
                have oTq := oTq2
                clear oTq2
                go_wp2_with fail
                go_loopw [13, 112] (fun nn ee wz => ∃ (e : Nat), e ≤ GG.length ∧ ee = .int .i64 e ∧ nn = .int .i64 ((UU.countP (fun d => d.s == (s : Int)) + (GG.take e).countP (fun d => d.s == (s : Int)) : Nat) : Int) ∧ Below wp.heap.size wp wz) (fun _ e _ => GG.length - (intOf e).toNat)
                case atStart => exact ⟨0, by omega, rfl, by simp, Below.refl _ _⟩
                case round =>
                  rename World => wp
                  clear t0 t1 t2 fT zT
                  obtain ⟨e, he, rfl, rfl, hbp⟩ := hrel
                  have BP := Lib.hid hbp
                  clear hbp
                  have oTp := Lib.hid (oTq.out.below BP.out)
                  obtain ⟨t0, t1, t2, fT, zT⟩ := own3 oTp.out
                  have BT := Lib.hid (belowTo BQ.out BP.out BQ.out.size)
                  have e0 : (0 : Int) ≤ (e : Int) := Int.natCast_nonneg _
                  have hcu := cnt_le (fun d => d.s == (s : Int)) GG e
                  have hcl := List.countP_le_length (p := (fun d => d.s == (s : Int))) (l := UU)
                  have hcz : (0 : Int) ≤ ((UU.countP (fun d => d.s == (s : Int)) + (GG.take e).countP (fun d => d.s == (s : Int)) : Nat) : Int) := Int.natCast_nonneg _
                  by_cases hle : e < GG.length
                  · obtain ⟨a, b', off', ha, rfl, _, _, a0, a1, a2, a3, a4⟩ := TG.out.atG BT.out hle
                    have e1 : (e : Int) < (GG.length : Int) := by omega
                    have hcw : ((UU.countP (fun d => d.s == (s : Int)) + (GG.take e).countP (fun d => d.s == (s : Int)) : Nat) : Int) < 1000 := by omega
                    have HA := Lib.hid (cnt_snoc (q := (fun d => d.s == (s : Int))) ha)
                    clear ha
                    have BP2 := Lib.hid (BP.out.alloc BP.out.size (.cells #[.int .i64 a.s, .int .i64 a.o, .int .i64 a.p, .int .i64 a.m, .int .i64 a.u] 34))
                    cases hq : (a.s == (s : Int)) with
                    | true =>
                      have HQ := Lib.hid hq
                      go_wp2_with fail
                      go_roundw
                      case rel => exact ⟨e + 1, by omega, by go_num, by rw [HA.out, HQ.out]; go_num, BP2.out⟩
                      case measure => simp [intOf]; omega
                    | false =>
                      have HQ := Lib.hid hq
                      go_wp2_with fail
                      go_roundw
                      case rel => exact ⟨e + 1, by omega, by go_num, by rw [HA.out, HQ.out]; simp, BP2.out⟩
                      case measure => simp [intOf]; omega
                  · obtain rfl : e = GG.length := by omega
                    have HC2 := HCN.out
                    rw [List.take_length] at *
                    cases hb : bsyB (s : Int) UU GG with
                    | true =>
                      rw [hb] at HC2
                      have HB := Lib.hid hb
                      clear hb
                      have hc3 : ((UU.countP (fun d => d.s == (s : Int)) + GG.countP (fun d => d.s == (s : Int)) : Nat) : Int) = 1 := by rw [HC2]; rfl
                      rw [hc3]
                      clear hc3 HC2 HCN hcz hcu hcl
                      go_wp2_with (first | (go_at_call 19; refine (busy_lit _ _ _ UU GG (s : Int) _ (TU.out.below BT.out) (TG.out.below BT.out) true HB.out).mono ?_; rintro e9 w9 ⟨rfl, hb9⟩; have B9 := Lib.hid (belowTo BT.out hb9 BT.out.size); clear hb9) | fail)
                      go_roundw
                      case rel => exact ⟨s + 1, by omega, by go_num, B9.out⟩
                      case measure => simp [intOf]; omega
                    | false =>
                      rw [hb] at HC2
                      have HB := Lib.hid hb
                      clear hb
                      have hc3 : ((UU.countP (fun d => d.s == (s : Int)) + GG.countP (fun d => d.s == (s : Int)) : Nat) : Int) = 0 := by rw [HC2]; rfl
                      rw [hc3]
                      clear hc3 HC2 HCN hcz hcu hcl
                      go_wp2_with (first | (go_at_call 19; refine (busy_lit _ _ _ UU GG (s : Int) _ (TU.out.below BT.out) (TG.out.below BT.out) false HB.out).mono ?_; rintro e9 w9 ⟨rfl, hb9⟩; have B9 := Lib.hid (belowTo BT.out hb9 BT.out.size); clear hb9) | fail)
                      go_roundw
                      case rel => exact ⟨s + 1, by omega, by go_num, B9.out⟩
                      case measure => simp [intOf]; omega
          · have hs9 : (s : Int) = D := by omega
            go_wp2_with fail
            go_roundw
            case rel => exact ⟨i + 1, UU, GG, AA, _, _, _, _, _, _, _, _, _, by omega, by go_num, HV2.out, oT.out.below BQ.out, oL.out.below BQ.out, TU.out.below BQ.out, TG.out.below BQ.out, TA.out.below BQ.out, belowTo bel.out BQ.out bel.out.size⟩
            case measure => simp [intOf]; omega
    · go_wp2_with fail
      go_ret
      exact ⟨rfl, BLr.out⟩

theorem cellsOnce_walk (vu vg va : Value) (us : List Us) (gs : List Gr) (ks : List Ak) (N D : Int) (vs : Value) (steps : List St) (w : World) (su : SlU w vu us) (sg : SlG w vg gs) (sa : SlA w va ks) {q1 q2 : Prop} (_ : q1) (_ : q2) (ss : SlT stL w vs steps) (hk : ∀ d ∈ steps, 0 ≤ d.k ∧ d.k ≤ 255) : Calls Try.prog 5 #[.agg #[vu, vg, va], .agg #[.int .i64 N, .int .i64 D], vs] w fun e w' => e = .returned (.bool true) ∧ Below w.heap.size w w' := by
  cases hf : fewB us gs ks with
  | false => exact once_few vu vg va us gs ks N D steps vs w su sg sa ss hk hf
  | true =>
    cases hv : vldT N D us gs ks with
    | false => exact once_bad vu vg va us gs ks N D steps vs w su sg sa ss hk hf hv
    | true =>
      cases hl : decide (60 < (steps.length : Int)) with
      | true => exact once_long vu vg va us gs ks N D steps vs w su sg sa ss hk hf hv hl
      | false => exact once_go vu vg va us gs ks N D steps vs w su sg sa ss hk hf hv hl

end Go.Proofs.Ytdmadnoijhmbcaa
