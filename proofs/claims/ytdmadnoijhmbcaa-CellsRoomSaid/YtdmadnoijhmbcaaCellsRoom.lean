/- The walk of CellsRoom. -/
import Derived.Test.YtdmadnoijhmbcaaHead12
import Derived.Test.YtdmadnoijhmbcaaRVld12
import Derived.Test.YtdmadnoijhmbcaaLaw12p
import Derived.Test.YtdmadnoijhmbcaaOpen12
import Derived.Test.YtdmadnoijhmbcaaFld12
import Derived.Deep.DeepCutAuto
namespace Go.Proofs.Ytdmadnoijhmbcaa
open Go.RowKit

theorem mem_ce {us : List Us} {gs : List Gr} {c : Ce} (h : c ∈ us.map ceU ++ gs.map ceG) : (∃ d ∈ us, d.s = c.s ∧ d.o = c.o) ∨ ∃ d ∈ gs, d.s = c.s ∧ d.o = c.o := by
  rcases List.mem_append.1 h with h | h
  · obtain ⟨d, hd, rfl⟩ := List.mem_map.1 h
    exact Or.inl ⟨d, hd, rfl, rfl⟩
  · obtain ⟨d, hd, rfl⟩ := List.mem_map.1 h
    exact Or.inr ⟨d, hd, rfl, rfl⟩
theorem filt_lt {α : Type} {p : α → Bool} {l : List α} {d : α} (h : d ∈ l) (hp : p d = false) : (l.filter p).length < l.length := by
  have h1 := List.length_filter_le p l
  rcases Nat.lt_or_ge (l.filter p).length l.length with h2 | h2
  · exact h2
  · have h3 := List.length_filter_eq_length_iff.1 (Nat.le_antisymm h1 h2) d h
    rw [hp] at h3; cases h3
theorem room_drop {N D : Int} {us : List Us} {gs : List Gr} {ks : List Ak} {x : Us} {c : Ce} (h : Val N D us gs ks) (hx : usB N D x = true) (hb : bsyB x.s us gs = false) (hc : c ∈ us.map ceU ++ gs.map ceG) :
    auE N D (us.filter (fun d => !(d.s == c.s && d.o == c.o))) (gs.filter (fun d => !(d.s == c.s && d.o == c.o))) (ks.filter (fun d => !(d.s == c.s && d.o == c.o))) x = 0 := by
  obtain ⟨b1, b2⟩ := bsy_false.1 hb
  refine auE_mk (val_sub _ _ _ h) hx (bsy_false.2 ⟨fun d hd => b1 d (List.mem_filter.1 hd).1, fun d hd => b2 d (List.mem_filter.1 hd).1⟩) ?_
  have h1 := List.length_filter_le (fun d : Us => !(d.s == c.s && d.o == c.o)) us
  have h2 := List.length_filter_le (fun d : Gr => !(d.s == c.s && d.o == c.o)) gs
  have := h.n24
  rcases mem_ce hc with ⟨d, hd, e1, e2⟩ | ⟨d, hd, e1, e2⟩
  · have := filt_lt (p := fun d : Us => !(d.s == c.s && d.o == c.o)) hd (by simp [e1, e2])
    omega
  · have := filt_lt (p := fun d : Gr => !(d.s == c.s && d.o == c.o)) hd (by simp [e1, e2])
    omega
theorem room_full {N D : Int} {us : List Us} {gs : List Gr} {ks : List Ak} {x : Us} (h : Val N D us gs ks) (hx : usB N D x = true) (hb : bsyB x.s us gs = false) (hl : ¬ us.length + gs.length < 24) : auE N D us gs ks x = 10 := refE_f (vld_iff.2 h) hx hb (by omega)

set_option linter.unusedSimpArgs false in
set_option linter.unusedVariables false in
set_option maxRecDepth 100000 in
set_option maxHeartbeats 2000000 in
theorem room_few (vu vg va : Value) (us : List Us) (gs : List Gr) (ks : List Ak) (N D : Int) (x : Us) (pk : Int) (w : World) (su : SlU w vu us) (sg : SlG w vg gs) (sa : SlA w va ks) (hp0 : 0 ≤ pk) (hp1 : pk ≤ 255) (hf : fewB us gs ks = false) : Calls Try.prog 9 #[.agg #[vu, vg, va], .agg #[.int .i64 N, .int .i64 D], .agg #[.int .i64 x.s, .int .i64 x.o, .int .i64 x.p, .int .i64 x.m], .int .u8 pk] w fun e w' => e = .returned (.bool true) ∧ Below w.heap.size w w' := by
  obtain ⟨pu, cu, e0, hlu, hcu, _⟩ := su.form us.length rfl
  subst e0
  obtain ⟨pg, cg, e0, hlg, hcg, _⟩ := sg.form gs.length rfl
  subst e0
  obtain ⟨pa, ca, e0, hla, hca, _⟩ := sa.form ks.length rfl
  subst e0
  have SU := Lib.hid su
  have SG := Lib.hid sg
  have SA := Lib.hid sa
  clear su sg sa
  have HF := Lib.hid hf
  clear hf
  go_enter Try.func9, Try.ntmps9
  go_wp2_with fail
  refine (head_true _).mono ?_
  rintro e w1 ⟨rfl, hb⟩
  replace SU := Lib.hid ((((SU.out.below (belowNew _ _)).below (belowNew _ _)).below (belowNew _ _)).below hb)
  replace SG := Lib.hid ((((SG.out.below (belowNew _ _)).below (belowNew _ _)).below (belowNew _ _)).below hb)
  replace SA := Lib.hid ((((SA.out.below (belowNew _ _)).below (belowNew _ _)).below (belowNew _ _)).below hb)
  have oT : Own w1 w.heap.size [.slice pu us.length cu, .slice pg gs.length cg, .slice pa ks.length ca] 26 := (((own_at _ _ rfl).alloc _).alloc _).below hb
  have oL : Own w1 (w.heap.size + 1) [.int .i64 N, .int .i64 D] 28 := ((own_at _ _ (by simp)).alloc _).below hb
  have oX : Own w1 (w.heap.size + 1 + 1) [.int .i64 x.s, .int .i64 x.o, .int .i64 x.p, .int .i64 x.m] 32 := (own_at _ _ (by simp)).below hb
  have bel := belowTo ((((Below.refl w.heap.size w).alloc (by simp) _).alloc (by simp) _).alloc (by simp; omega) _) hb (by simp; omega)
  clear hb
  obtain ⟨cT0, cT1, cT2, fT, zT⟩ := own3 oT
  obtain ⟨cL0, cL1, fL, zL⟩ := own2 oL
  obtain ⟨cX0, cX1, cX2, cX3, fX, zX⟩ := own4 oX
  go_wp2_with fail
  refine (few_lit _ _ _ us gs ks _ SU.out SG.out SA.out false HF.out).mono ?_
  rintro e w2 ⟨rfl, hb⟩
  replace oT := oT.below hb
  replace oL := oL.below hb
  replace oX := oX.below hb
  replace SU := Lib.hid (SU.out.below hb)
  replace SG := Lib.hid (SG.out.below hb)
  replace SA := Lib.hid (SA.out.below hb)
  replace bel := belowTo bel hb (by exact bel.size)
  clear hb
  clear cT0 cT1 cT2 fT zT cL0 cL1 fL zL cX0 cX1 cX2 cX3 fX zX
  obtain ⟨cT0, cT1, cT2, fT, zT⟩ := own3 oT
  obtain ⟨cL0, cL1, fL, zL⟩ := own2 oL
  obtain ⟨cX0, cX1, cX2, cX3, fX, zX⟩ := own4 oX
  go_wp2_with fail
  go_ret
  exact ⟨rfl, bel⟩

set_option linter.unusedSimpArgs false in
set_option linter.unusedVariables false in
set_option maxRecDepth 100000 in
set_option maxHeartbeats 2000000 in
theorem room_bad (vu vg va : Value) (us : List Us) (gs : List Gr) (ks : List Ak) (N D : Int) (x : Us) (pk : Int) (w : World) (su : SlU w vu us) (sg : SlG w vg gs) (sa : SlA w va ks) (hp0 : 0 ≤ pk) (hp1 : pk ≤ 255) (hf : fewB us gs ks = true) (hv : vldT N D us gs ks = false) : Calls Try.prog 9 #[.agg #[vu, vg, va], .agg #[.int .i64 N, .int .i64 D], .agg #[.int .i64 x.s, .int .i64 x.o, .int .i64 x.p, .int .i64 x.m], .int .u8 pk] w fun e w' => e = .returned (.bool true) ∧ Below w.heap.size w w' := by
  have u70 : us.length ≤ 70 := (fewB_iff.1 hf).1
  have g70 : gs.length ≤ 70 := (fewB_iff.1 hf).2.1
  have k70 : ks.length ≤ 70 := (fewB_iff.1 hf).2.2
  obtain ⟨pu, cu, e0, hlu, hcu, _⟩ := su.form us.length rfl
  subst e0
  obtain ⟨pg, cg, e0, hlg, hcg, _⟩ := sg.form gs.length rfl
  subst e0
  obtain ⟨pa, ca, e0, hla, hca, _⟩ := sa.form ks.length rfl
  subst e0
  have SU := Lib.hid su
  have SG := Lib.hid sg
  have SA := Lib.hid sa
  clear su sg sa
  have HF := Lib.hid hf
  have HV := Lib.hid hv
  clear hf hv
  go_enter Try.func9, Try.ntmps9
  go_wp2_with fail
  refine (head_true _).mono ?_
  rintro e w1 ⟨rfl, hb⟩
  replace SU := Lib.hid ((((SU.out.below (belowNew _ _)).below (belowNew _ _)).below (belowNew _ _)).below hb)
  replace SG := Lib.hid ((((SG.out.below (belowNew _ _)).below (belowNew _ _)).below (belowNew _ _)).below hb)
  replace SA := Lib.hid ((((SA.out.below (belowNew _ _)).below (belowNew _ _)).below (belowNew _ _)).below hb)
  have oT : Own w1 w.heap.size [.slice pu us.length cu, .slice pg gs.length cg, .slice pa ks.length ca] 26 := (((own_at _ _ rfl).alloc _).alloc _).below hb
  have oL : Own w1 (w.heap.size + 1) [.int .i64 N, .int .i64 D] 28 := ((own_at _ _ (by simp)).alloc _).below hb
  have oX : Own w1 (w.heap.size + 1 + 1) [.int .i64 x.s, .int .i64 x.o, .int .i64 x.p, .int .i64 x.m] 32 := (own_at _ _ (by simp)).below hb
  have bel := belowTo ((((Below.refl w.heap.size w).alloc (by simp) _).alloc (by simp) _).alloc (by simp; omega) _) hb (by simp; omega)
  clear hb
  obtain ⟨cT0, cT1, cT2, fT, zT⟩ := own3 oT
  obtain ⟨cL0, cL1, fL, zL⟩ := own2 oL
  obtain ⟨cX0, cX1, cX2, cX3, fX, zX⟩ := own4 oX
  go_wp2_with fail
  refine (few_lit _ _ _ us gs ks _ SU.out SG.out SA.out true HF.out).mono ?_
  rintro e w2 ⟨rfl, hb⟩
  replace oT := oT.below hb
  replace oL := oL.below hb
  replace oX := oX.below hb
  replace SU := Lib.hid (SU.out.below hb)
  replace SG := Lib.hid (SG.out.below hb)
  replace SA := Lib.hid (SA.out.below hb)
  replace bel := belowTo bel hb (by exact bel.size)
  clear hb
  clear cT0 cT1 cT2 fT zT cL0 cL1 fL zL cX0 cX1 cX2 cX3 fX zX
  obtain ⟨cT0, cT1, cT2, fT, zT⟩ := own3 oT
  obtain ⟨cL0, cL1, fL, zL⟩ := own2 oL
  obtain ⟨cX0, cX1, cX2, cX3, fX, zX⟩ := own4 oX
  go_wp2_with fail
  refine (rvalid_lit _ _ _ us gs ks N D _ SU.out SG.out SA.out (by omega) (by omega) (by omega) false HV.out).mono ?_
  rintro e w3 ⟨rfl, hb⟩
  replace oT := oT.below hb
  replace oL := oL.below hb
  replace oX := oX.below hb
  replace SU := Lib.hid (SU.out.below hb)
  replace SG := Lib.hid (SG.out.below hb)
  replace SA := Lib.hid (SA.out.below hb)
  replace bel := belowTo bel hb (by exact bel.size)
  clear hb
  clear cT0 cT1 cT2 fT zT cL0 cL1 fL zL cX0 cX1 cX2 cX3 fX zX
  obtain ⟨cT0, cT1, cT2, fT, zT⟩ := own3 oT
  obtain ⟨cL0, cL1, fL, zL⟩ := own2 oL
  obtain ⟨cX0, cX1, cX2, cX3, fX, zX⟩ := own4 oX
  go_wp2_with fail
  go_ret
  exact ⟨rfl, bel⟩

set_option linter.unusedSimpArgs false in
set_option linter.unusedVariables false in
set_option maxRecDepth 100000 in
set_option maxHeartbeats 2000000 in
theorem room_u (vu vg va : Value) (us : List Us) (gs : List Gr) (ks : List Ak) (N D : Int) (x : Us) (pk : Int) (w : World) (su : SlU w vu us) (sg : SlG w vg gs) (sa : SlA w va ks) (hp0 : 0 ≤ pk) (hp1 : pk ≤ 255) (hf : fewB us gs ks = true) (hv : vldT N D us gs ks = true) (ho : usB N D x = false) : Calls Try.prog 9 #[.agg #[vu, vg, va], .agg #[.int .i64 N, .int .i64 D], .agg #[.int .i64 x.s, .int .i64 x.o, .int .i64 x.p, .int .i64 x.m], .int .u8 pk] w fun e w' => e = .returned (.bool true) ∧ Below w.heap.size w w' := by
  have u70 : us.length ≤ 70 := (fewB_iff.1 hf).1
  have g70 : gs.length ≤ 70 := (fewB_iff.1 hf).2.1
  have k70 : ks.length ≤ 70 := (fewB_iff.1 hf).2.2
  obtain ⟨pu, cu, e0, hlu, hcu, _⟩ := su.form us.length rfl
  subst e0
  obtain ⟨pg, cg, e0, hlg, hcg, _⟩ := sg.form gs.length rfl
  subst e0
  obtain ⟨pa, ca, e0, hla, hca, _⟩ := sa.form ks.length rfl
  subst e0
  have SU := Lib.hid su
  have SG := Lib.hid sg
  have SA := Lib.hid sa
  clear su sg sa
  have iu0 : (0 : Int) ≤ (us.length : Int) := Int.natCast_nonneg _
  have ig0 : (0 : Int) ≤ (gs.length : Int) := Int.natCast_nonneg _
  have ia0 : (0 : Int) ≤ (ks.length : Int) := Int.natCast_nonneg _
  have iu : (us.length : Int) ≤ 70 := by omega
  have ig : (gs.length : Int) ≤ 70 := by omega
  have ia : (ks.length : Int) ≤ 70 := by omega
  have HF := Lib.hid hf
  have HV := Lib.hid hv
  have HO := Lib.hid ho
  clear hf hv ho
  go_enter Try.func9, Try.ntmps9
  go_wp2_with fail
  refine (head_true _).mono ?_
  rintro e w1 ⟨rfl, hb⟩
  replace SU := Lib.hid ((((SU.out.below (belowNew _ _)).below (belowNew _ _)).below (belowNew _ _)).below hb)
  replace SG := Lib.hid ((((SG.out.below (belowNew _ _)).below (belowNew _ _)).below (belowNew _ _)).below hb)
  replace SA := Lib.hid ((((SA.out.below (belowNew _ _)).below (belowNew _ _)).below (belowNew _ _)).below hb)
  have oT : Own w1 w.heap.size [.slice pu us.length cu, .slice pg gs.length cg, .slice pa ks.length ca] 26 := (((own_at _ _ rfl).alloc _).alloc _).below hb
  have oL : Own w1 (w.heap.size + 1) [.int .i64 N, .int .i64 D] 28 := ((own_at _ _ (by simp)).alloc _).below hb
  have oX : Own w1 (w.heap.size + 1 + 1) [.int .i64 x.s, .int .i64 x.o, .int .i64 x.p, .int .i64 x.m] 32 := (own_at _ _ (by simp)).below hb
  have bel := belowTo ((((Below.refl w.heap.size w).alloc (by simp) _).alloc (by simp) _).alloc (by simp; omega) _) hb (by simp; omega)
  clear hb
  obtain ⟨cT0, cT1, cT2, fT, zT⟩ := own3 oT
  obtain ⟨cL0, cL1, fL, zL⟩ := own2 oL
  obtain ⟨cX0, cX1, cX2, cX3, fX, zX⟩ := own4 oX
  go_wp2_with fail
  refine (few_lit _ _ _ us gs ks _ SU.out SG.out SA.out true HF.out).mono ?_
  rintro e w2 ⟨rfl, hb⟩
  replace oT := oT.below hb
  replace oL := oL.below hb
  replace oX := oX.below hb
  replace SU := Lib.hid (SU.out.below hb)
  replace SG := Lib.hid (SG.out.below hb)
  replace SA := Lib.hid (SA.out.below hb)
  replace bel := belowTo bel hb (by exact bel.size)
  clear hb
  clear cT0 cT1 cT2 fT zT cL0 cL1 fL zL cX0 cX1 cX2 cX3 fX zX
  obtain ⟨cT0, cT1, cT2, fT, zT⟩ := own3 oT
  obtain ⟨cL0, cL1, fL, zL⟩ := own2 oL
  obtain ⟨cX0, cX1, cX2, cX3, fX, zX⟩ := own4 oX
  go_wp2_with fail
  refine (rvalid_lit _ _ _ us gs ks N D _ SU.out SG.out SA.out (by omega) (by omega) (by omega) true HV.out).mono ?_
  rintro e w3 ⟨rfl, hb⟩
  replace oT := oT.below hb
  replace oL := oL.below hb
  replace oX := oX.below hb
  replace SU := Lib.hid (SU.out.below hb)
  replace SG := Lib.hid (SG.out.below hb)
  replace SA := Lib.hid (SA.out.below hb)
  replace bel := belowTo bel hb (by exact bel.size)
  clear hb
  clear cT0 cT1 cT2 fT zT cL0 cL1 fL zL cX0 cX1 cX2 cX3 fX zX
  obtain ⟨cT0, cT1, cT2, fT, zT⟩ := own3 oT
  obtain ⟨cL0, cL1, fL, zL⟩ := own2 oL
  obtain ⟨cX0, cX1, cX2, cX3, fX, zX⟩ := own4 oX
  go_wp2_with fail
  refine (ruval_lit x N D false _ HO.out).mono ?_
  rintro e w4 ⟨rfl, hb⟩
  replace oT := oT.below hb
  replace oL := oL.below hb
  replace oX := oX.below hb
  replace SU := Lib.hid (SU.out.below hb)
  replace SG := Lib.hid (SG.out.below hb)
  replace SA := Lib.hid (SA.out.below hb)
  replace bel := belowTo bel hb (by exact bel.size)
  clear hb
  clear cT0 cT1 cT2 fT zT cL0 cL1 fL zL cX0 cX1 cX2 cX3 fX zX
  obtain ⟨cT0, cT1, cT2, fT, zT⟩ := own3 oT
  obtain ⟨cL0, cL1, fL, zL⟩ := own2 oL
  obtain ⟨cX0, cX1, cX2, cX3, fX, zX⟩ := own4 oX
  go_wp2_with fail
  go_ret
  exact ⟨rfl, bel⟩

set_option linter.unusedSimpArgs false in
set_option linter.unusedVariables false in
set_option maxRecDepth 100000 in
set_option maxHeartbeats 2000000 in
theorem room_b (vu vg va : Value) (us : List Us) (gs : List Gr) (ks : List Ak) (N D : Int) (x : Us) (pk : Int) (w : World) (su : SlU w vu us) (sg : SlG w vg gs) (sa : SlA w va ks) (hp0 : 0 ≤ pk) (hp1 : pk ≤ 255) (hf : fewB us gs ks = true) (hv : vldT N D us gs ks = true) (ho : usB N D x = true) (hb : bsyB x.s us gs = true) : Calls Try.prog 9 #[.agg #[vu, vg, va], .agg #[.int .i64 N, .int .i64 D], .agg #[.int .i64 x.s, .int .i64 x.o, .int .i64 x.p, .int .i64 x.m], .int .u8 pk] w fun e w' => e = .returned (.bool true) ∧ Below w.heap.size w w' := by
  have u70 : us.length ≤ 70 := (fewB_iff.1 hf).1
  have g70 : gs.length ≤ 70 := (fewB_iff.1 hf).2.1
  have k70 : ks.length ≤ 70 := (fewB_iff.1 hf).2.2
  obtain ⟨pu, cu, e0, hlu, hcu, _⟩ := su.form us.length rfl
  subst e0
  obtain ⟨pg, cg, e0, hlg, hcg, _⟩ := sg.form gs.length rfl
  subst e0
  obtain ⟨pa, ca, e0, hla, hca, _⟩ := sa.form ks.length rfl
  subst e0
  have SU := Lib.hid su
  have SG := Lib.hid sg
  have SA := Lib.hid sa
  clear su sg sa
  have iu0 : (0 : Int) ≤ (us.length : Int) := Int.natCast_nonneg _
  have ig0 : (0 : Int) ≤ (gs.length : Int) := Int.natCast_nonneg _
  have ia0 : (0 : Int) ≤ (ks.length : Int) := Int.natCast_nonneg _
  have iu : (us.length : Int) ≤ 70 := by omega
  have ig : (gs.length : Int) ≤ 70 := by omega
  have ia : (ks.length : Int) ≤ 70 := by omega
  have HF := Lib.hid hf
  have HV := Lib.hid hv
  have HO := Lib.hid ho
  have HB := Lib.hid hb
  clear hf hv ho hb
  go_enter Try.func9, Try.ntmps9
  go_wp2_with fail
  refine (head_true _).mono ?_
  rintro e w1 ⟨rfl, hb⟩
  replace SU := Lib.hid ((((SU.out.below (belowNew _ _)).below (belowNew _ _)).below (belowNew _ _)).below hb)
  replace SG := Lib.hid ((((SG.out.below (belowNew _ _)).below (belowNew _ _)).below (belowNew _ _)).below hb)
  replace SA := Lib.hid ((((SA.out.below (belowNew _ _)).below (belowNew _ _)).below (belowNew _ _)).below hb)
  have oT : Own w1 w.heap.size [.slice pu us.length cu, .slice pg gs.length cg, .slice pa ks.length ca] 26 := (((own_at _ _ rfl).alloc _).alloc _).below hb
  have oL : Own w1 (w.heap.size + 1) [.int .i64 N, .int .i64 D] 28 := ((own_at _ _ (by simp)).alloc _).below hb
  have oX : Own w1 (w.heap.size + 1 + 1) [.int .i64 x.s, .int .i64 x.o, .int .i64 x.p, .int .i64 x.m] 32 := (own_at _ _ (by simp)).below hb
  have bel := belowTo ((((Below.refl w.heap.size w).alloc (by simp) _).alloc (by simp) _).alloc (by simp; omega) _) hb (by simp; omega)
  clear hb
  obtain ⟨cT0, cT1, cT2, fT, zT⟩ := own3 oT
  obtain ⟨cL0, cL1, fL, zL⟩ := own2 oL
  obtain ⟨cX0, cX1, cX2, cX3, fX, zX⟩ := own4 oX
  go_wp2_with fail
  refine (few_lit _ _ _ us gs ks _ SU.out SG.out SA.out true HF.out).mono ?_
  rintro e w2 ⟨rfl, hb⟩
  replace oT := oT.below hb
  replace oL := oL.below hb
  replace oX := oX.below hb
  replace SU := Lib.hid (SU.out.below hb)
  replace SG := Lib.hid (SG.out.below hb)
  replace SA := Lib.hid (SA.out.below hb)
  replace bel := belowTo bel hb (by exact bel.size)
  clear hb
  clear cT0 cT1 cT2 fT zT cL0 cL1 fL zL cX0 cX1 cX2 cX3 fX zX
  obtain ⟨cT0, cT1, cT2, fT, zT⟩ := own3 oT
  obtain ⟨cL0, cL1, fL, zL⟩ := own2 oL
  obtain ⟨cX0, cX1, cX2, cX3, fX, zX⟩ := own4 oX
  go_wp2_with fail
  refine (rvalid_lit _ _ _ us gs ks N D _ SU.out SG.out SA.out (by omega) (by omega) (by omega) true HV.out).mono ?_
  rintro e w3 ⟨rfl, hb⟩
  replace oT := oT.below hb
  replace oL := oL.below hb
  replace oX := oX.below hb
  replace SU := Lib.hid (SU.out.below hb)
  replace SG := Lib.hid (SG.out.below hb)
  replace SA := Lib.hid (SA.out.below hb)
  replace bel := belowTo bel hb (by exact bel.size)
  clear hb
  clear cT0 cT1 cT2 fT zT cL0 cL1 fL zL cX0 cX1 cX2 cX3 fX zX
  obtain ⟨cT0, cT1, cT2, fT, zT⟩ := own3 oT
  obtain ⟨cL0, cL1, fL, zL⟩ := own2 oL
  obtain ⟨cX0, cX1, cX2, cX3, fX, zX⟩ := own4 oX
  go_wp2_with fail
  refine (ruval_lit x N D true _ HO.out).mono ?_
  rintro e w4 ⟨rfl, hb⟩
  replace oT := oT.below hb
  replace oL := oL.below hb
  replace oX := oX.below hb
  replace SU := Lib.hid (SU.out.below hb)
  replace SG := Lib.hid (SG.out.below hb)
  replace SA := Lib.hid (SA.out.below hb)
  replace bel := belowTo bel hb (by exact bel.size)
  clear hb
  clear cT0 cT1 cT2 fT zT cL0 cL1 fL zL cX0 cX1 cX2 cX3 fX zX
  obtain ⟨cT0, cT1, cT2, fT, zT⟩ := own3 oT
  obtain ⟨cL0, cL1, fL, zL⟩ := own2 oL
  obtain ⟨cX0, cX1, cX2, cX3, fX, zX⟩ := own4 oX
  go_wp2_with fail
  refine (rbusy_lit _ _ _ us gs x.s _ SU.out SG.out (by omega) (by omega) true HB.out).mono ?_
  rintro e w5 ⟨rfl, hb⟩
  replace oT := oT.below hb
  replace oL := oL.below hb
  replace oX := oX.below hb
  replace SU := Lib.hid (SU.out.below hb)
  replace SG := Lib.hid (SG.out.below hb)
  replace SA := Lib.hid (SA.out.below hb)
  replace bel := belowTo bel hb (by exact bel.size)
  clear hb
  clear cT0 cT1 cT2 fT zT cL0 cL1 fL zL cX0 cX1 cX2 cX3 fX zX
  obtain ⟨cT0, cT1, cT2, fT, zT⟩ := own3 oT
  obtain ⟨cL0, cL1, fL, zL⟩ := own2 oL
  obtain ⟨cX0, cX1, cX2, cX3, fX, zX⟩ := own4 oX
  go_wp2_with fail
  go_ret
  exact ⟨rfl, bel⟩

set_option linter.unusedSimpArgs false in
set_option linter.unusedVariables false in
set_option maxRecDepth 100000 in
set_option maxHeartbeats 2000000 in
theorem room_lt (vu vg va : Value) (us : List Us) (gs : List Gr) (ks : List Ak) (N D : Int) (x : Us) (pk : Int) (w : World) (su : SlU w vu us) (sg : SlG w vg gs) (sa : SlA w va ks) (hp0 : 0 ≤ pk) (hp1 : pk ≤ 255) (hf : fewB us gs ks = true) (hv : vldT N D us gs ks = true) (ho : usB N D x = true) (hb : bsyB x.s us gs = false) (hl : us.length + gs.length < 24) : Calls Try.prog 9 #[.agg #[vu, vg, va], .agg #[.int .i64 N, .int .i64 D], .agg #[.int .i64 x.s, .int .i64 x.o, .int .i64 x.p, .int .i64 x.m], .int .u8 pk] w fun e w' => e = .returned (.bool true) ∧ Below w.heap.size w w' := by
  have u70 : us.length ≤ 70 := (fewB_iff.1 hf).1
  have g70 : gs.length ≤ 70 := (fewB_iff.1 hf).2.1
  have k70 : ks.length ≤ 70 := (fewB_iff.1 hf).2.2
  have he := auE_mk (vld_iff.1 hv) ho hb hl
  obtain ⟨pu, cu, e0, hlu, hcu, _⟩ := su.form us.length rfl
  subst e0
  obtain ⟨pg, cg, e0, hlg, hcg, _⟩ := sg.form gs.length rfl
  subst e0
  obtain ⟨pa, ca, e0, hla, hca, _⟩ := sa.form ks.length rfl
  subst e0
  have SU := Lib.hid su
  have SG := Lib.hid sg
  have SA := Lib.hid sa
  clear su sg sa
  have iu0 : (0 : Int) ≤ (us.length : Int) := Int.natCast_nonneg _
  have ig0 : (0 : Int) ≤ (gs.length : Int) := Int.natCast_nonneg _
  have ia0 : (0 : Int) ≤ (ks.length : Int) := Int.natCast_nonneg _
  have iu : (us.length : Int) ≤ 70 := by omega
  have ig : (gs.length : Int) ≤ 70 := by omega
  have ia : (ks.length : Int) ≤ 70 := by omega
  have hl1 : (us.length : Int) + (gs.length : Int) < 24 := by omega
  have HF := Lib.hid hf
  have HV := Lib.hid hv
  have HO := Lib.hid ho
  have HB := Lib.hid hb
  have HE := Lib.hid he
  clear hf hv ho hb he
  go_enter Try.func9, Try.ntmps9
  go_wp2_with fail
  refine (head_true _).mono ?_
  rintro e w1 ⟨rfl, hb⟩
  replace SU := Lib.hid ((((SU.out.below (belowNew _ _)).below (belowNew _ _)).below (belowNew _ _)).below hb)
  replace SG := Lib.hid ((((SG.out.below (belowNew _ _)).below (belowNew _ _)).below (belowNew _ _)).below hb)
  replace SA := Lib.hid ((((SA.out.below (belowNew _ _)).below (belowNew _ _)).below (belowNew _ _)).below hb)
  have oT : Own w1 w.heap.size [.slice pu us.length cu, .slice pg gs.length cg, .slice pa ks.length ca] 26 := (((own_at _ _ rfl).alloc _).alloc _).below hb
  have oL : Own w1 (w.heap.size + 1) [.int .i64 N, .int .i64 D] 28 := ((own_at _ _ (by simp)).alloc _).below hb
  have oX : Own w1 (w.heap.size + 1 + 1) [.int .i64 x.s, .int .i64 x.o, .int .i64 x.p, .int .i64 x.m] 32 := (own_at _ _ (by simp)).below hb
  have bel := belowTo ((((Below.refl w.heap.size w).alloc (by simp) _).alloc (by simp) _).alloc (by simp; omega) _) hb (by simp; omega)
  clear hb
  obtain ⟨cT0, cT1, cT2, fT, zT⟩ := own3 oT
  obtain ⟨cL0, cL1, fL, zL⟩ := own2 oL
  obtain ⟨cX0, cX1, cX2, cX3, fX, zX⟩ := own4 oX
  go_wp2_with fail
  refine (few_lit _ _ _ us gs ks _ SU.out SG.out SA.out true HF.out).mono ?_
  rintro e w2 ⟨rfl, hb⟩
  replace oT := oT.below hb
  replace oL := oL.below hb
  replace oX := oX.below hb
  replace SU := Lib.hid (SU.out.below hb)
  replace SG := Lib.hid (SG.out.below hb)
  replace SA := Lib.hid (SA.out.below hb)
  replace bel := belowTo bel hb (by exact bel.size)
  clear hb
  clear cT0 cT1 cT2 fT zT cL0 cL1 fL zL cX0 cX1 cX2 cX3 fX zX
  obtain ⟨cT0, cT1, cT2, fT, zT⟩ := own3 oT
  obtain ⟨cL0, cL1, fL, zL⟩ := own2 oL
  obtain ⟨cX0, cX1, cX2, cX3, fX, zX⟩ := own4 oX
  go_wp2_with fail
  refine (rvalid_lit _ _ _ us gs ks N D _ SU.out SG.out SA.out (by omega) (by omega) (by omega) true HV.out).mono ?_
  rintro e w3 ⟨rfl, hb⟩
  replace oT := oT.below hb
  replace oL := oL.below hb
  replace oX := oX.below hb
  replace SU := Lib.hid (SU.out.below hb)
  replace SG := Lib.hid (SG.out.below hb)
  replace SA := Lib.hid (SA.out.below hb)
  replace bel := belowTo bel hb (by exact bel.size)
  clear hb
  clear cT0 cT1 cT2 fT zT cL0 cL1 fL zL cX0 cX1 cX2 cX3 fX zX
  obtain ⟨cT0, cT1, cT2, fT, zT⟩ := own3 oT
  obtain ⟨cL0, cL1, fL, zL⟩ := own2 oL
  obtain ⟨cX0, cX1, cX2, cX3, fX, zX⟩ := own4 oX
  go_wp2_with fail
  refine (ruval_lit x N D true _ HO.out).mono ?_
  rintro e w4 ⟨rfl, hb⟩
  replace oT := oT.below hb
  replace oL := oL.below hb
  replace oX := oX.below hb
  replace SU := Lib.hid (SU.out.below hb)
  replace SG := Lib.hid (SG.out.below hb)
  replace SA := Lib.hid (SA.out.below hb)
  replace bel := belowTo bel hb (by exact bel.size)
  clear hb
  clear cT0 cT1 cT2 fT zT cL0 cL1 fL zL cX0 cX1 cX2 cX3 fX zX
  obtain ⟨cT0, cT1, cT2, fT, zT⟩ := own3 oT
  obtain ⟨cL0, cL1, fL, zL⟩ := own2 oL
  obtain ⟨cX0, cX1, cX2, cX3, fX, zX⟩ := own4 oX
  go_wp2_with fail
  refine (rbusy_lit _ _ _ us gs x.s _ SU.out SG.out (by omega) (by omega) false HB.out).mono ?_
  rintro e w5 ⟨rfl, hb⟩
  replace oT := oT.below hb
  replace oL := oL.below hb
  replace oX := oX.below hb
  replace SU := Lib.hid (SU.out.below hb)
  replace SG := Lib.hid (SG.out.below hb)
  replace SA := Lib.hid (SA.out.below hb)
  replace bel := belowTo bel hb (by exact bel.size)
  clear hb
  clear cT0 cT1 cT2 fT zT cL0 cL1 fL zL cX0 cX1 cX2 cX3 fX zX
  obtain ⟨cT0, cT1, cT2, fT, zT⟩ := own3 oT
  obtain ⟨cL0, cL1, fL, zL⟩ := own2 oL
  obtain ⟨cX0, cX1, cX2, cX3, fX, zX⟩ := own4 oX
  go_wp2_with fail
  refine (addu_lit _ _ _ us gs ks N D _ SU.out SG.out SA.out x (by omega) (by omega) (by omega) 0 HE.out).mono ?_
  rintro e w6 ⟨vA1, vA2, vA3, rfl, z1, z2, z3, hb⟩
  replace oT := oT.below hb
  replace oL := oL.below hb
  replace oX := oX.below hb
  replace SU := Lib.hid (SU.out.below hb)
  replace SG := Lib.hid (SG.out.below hb)
  replace SA := Lib.hid (SA.out.below hb)
  replace bel := belowTo bel hb (by exact bel.size)
  clear hb
  clear cT0 cT1 cT2 fT zT cL0 cL1 fL zL cX0 cX1 cX2 cX3 fX zX
  obtain ⟨cT0, cT1, cT2, fT, zT⟩ := own3 oT
  obtain ⟨cL0, cL1, fL, zL⟩ := own2 oL
  obtain ⟨cX0, cX1, cX2, cX3, fX, zX⟩ := own4 oX
  have AU := Lib.hid (show SlU w6 vA1 (adU x us) from z1)
  have AG := Lib.hid (show SlG w6 vA2 gs from z2)
  have AA := Lib.hid (show SlA w6 vA3 (una x.s ks) from z3)
  clear z1 z2 z3
  obtain ⟨pA1, nA1, cA1, f0⟩ := AU.out.slc
  subst f0
  obtain ⟨pA2, nA2, cA2, f0⟩ := AG.out.slc
  subst f0
  obtain ⟨pA3, nA3, cA3, f0⟩ := AA.out.slc
  subst f0
  go_wp2_with fail
  have oA : Own (w6.alloc (Obj.cells #[.slice pA1 nA1 cA1, .slice pA2 nA2 cA2, .slice pA3 nA3 cA3] 26)) w6.heap.size [.slice pA1 nA1 cA1, .slice pA2 nA2 cA2, .slice pA3 nA3 cA3] 26 := own_at _ _ rfl
  have ltAT : w.heap.size < w6.heap.size := zT
  have ltAL : w.heap.size + 1 < w6.heap.size := zL
  have ltAX : w.heap.size + 1 + 1 < w6.heap.size := zX
  replace oT := oT.alloc (Obj.cells #[.slice pA1 nA1 cA1, .slice pA2 nA2 cA2, .slice pA3 nA3 cA3] 26)
  replace oL := oL.alloc (Obj.cells #[.slice pA1 nA1 cA1, .slice pA2 nA2 cA2, .slice pA3 nA3 cA3] 26)
  replace oX := oX.alloc (Obj.cells #[.slice pA1 nA1 cA1, .slice pA2 nA2 cA2, .slice pA3 nA3 cA3] 26)
  replace SU := Lib.hid (SU.out.below (belowNew w6 (Obj.cells #[.slice pA1 nA1 cA1, .slice pA2 nA2 cA2, .slice pA3 nA3 cA3] 26)))
  replace SG := Lib.hid (SG.out.below (belowNew w6 (Obj.cells #[.slice pA1 nA1 cA1, .slice pA2 nA2 cA2, .slice pA3 nA3 cA3] 26)))
  replace SA := Lib.hid (SA.out.below (belowNew w6 (Obj.cells #[.slice pA1 nA1 cA1, .slice pA2 nA2 cA2, .slice pA3 nA3 cA3] 26)))
  replace AU := Lib.hid (AU.out.below (belowNew w6 (Obj.cells #[.slice pA1 nA1 cA1, .slice pA2 nA2 cA2, .slice pA3 nA3 cA3] 26)))
  replace AG := Lib.hid (AG.out.below (belowNew w6 (Obj.cells #[.slice pA1 nA1 cA1, .slice pA2 nA2 cA2, .slice pA3 nA3 cA3] 26)))
  replace AA := Lib.hid (AA.out.below (belowNew w6 (Obj.cells #[.slice pA1 nA1 cA1, .slice pA2 nA2 cA2, .slice pA3 nA3 cA3] 26)))
  replace bel := bel.alloc bel.size (Obj.cells #[.slice pA1 nA1 cA1, .slice pA2 nA2 cA2, .slice pA3 nA3 cA3] 26)
  clear cT0 cT1 cT2 fT zT cL0 cL1 fL zL cX0 cX1 cX2 cX3 fX zX
  generalize w6.alloc (Obj.cells #[.slice pA1 nA1 cA1, .slice pA2 nA2 cA2, .slice pA3 nA3 cA3] 26) = w7 at oT oL oX oA SU SG SA AU AG AA bel ⊢
  obtain ⟨cT0, cT1, cT2, fT, zT⟩ := own3 oT
  obtain ⟨cL0, cL1, fL, zL⟩ := own2 oL
  obtain ⟨cX0, cX1, cX2, cX3, fX, zX⟩ := own4 oX
  obtain ⟨cA0, cA1, cA2, fA, zA⟩ := own3 oA
  go_wp2_with fail
  go_ret
  exact ⟨rfl, bel⟩

set_option linter.unusedSimpArgs false in
set_option linter.unusedVariables false in
set_option maxRecDepth 100000 in
set_option maxHeartbeats 2000000 in
theorem room_ge (vu vg va : Value) (us : List Us) (gs : List Gr) (ks : List Ak) (N D : Int) (x : Us) (pk : Int) (w : World) (su : SlU w vu us) (sg : SlG w vg gs) (sa : SlA w va ks) (hp0 : 0 ≤ pk) (hp1 : pk ≤ 255) (hf : fewB us gs ks = true) (hv : vldT N D us gs ks = true) (ho : usB N D x = true) (hb : bsyB x.s us gs = false) (hl : ¬ us.length + gs.length < 24) : Calls Try.prog 9 #[.agg #[vu, vg, va], .agg #[.int .i64 N, .int .i64 D], .agg #[.int .i64 x.s, .int .i64 x.o, .int .i64 x.p, .int .i64 x.m], .int .u8 pk] w fun e w' => e = .returned (.bool true) ∧ Below w.heap.size w w' := by
  have u70 : us.length ≤ 70 := (fewB_iff.1 hf).1
  have g70 : gs.length ≤ 70 := (fewB_iff.1 hf).2.1
  have k70 : ks.length ≤ 70 := (fewB_iff.1 hf).2.2
  have he := room_full (vld_iff.1 hv) ho hb hl
  have h24 : us.length + gs.length = 24 := by have := (vld_iff.1 hv).n24; omega
  have HR := Lib.hid (fun (c : Ce) (hc : c ∈ us.map ceU ++ gs.map ceG) => room_drop (vld_iff.1 hv) ho hb hc)
  obtain ⟨pu, cu, e0, hlu, hcu, _⟩ := su.form us.length rfl
  subst e0
  obtain ⟨pg, cg, e0, hlg, hcg, _⟩ := sg.form gs.length rfl
  subst e0
  obtain ⟨pa, ca, e0, hla, hca, _⟩ := sa.form ks.length rfl
  subst e0
  have SU := Lib.hid su
  have SG := Lib.hid sg
  have SA := Lib.hid sa
  clear su sg sa
  have iu0 : (0 : Int) ≤ (us.length : Int) := Int.natCast_nonneg _
  have ig0 : (0 : Int) ≤ (gs.length : Int) := Int.natCast_nonneg _
  have ia0 : (0 : Int) ≤ (ks.length : Int) := Int.natCast_nonneg _
  have iu : (us.length : Int) ≤ 70 := by omega
  have ig : (gs.length : Int) ≤ 70 := by omega
  have ia : (ks.length : Int) ≤ 70 := by omega
  have hl1 : ¬ (us.length : Int) + (gs.length : Int) < 24 := by omega
  have H24 := Lib.hid h24
  clear h24 hl
  have HF := Lib.hid hf
  have HV := Lib.hid hv
  have HO := Lib.hid ho
  have HB := Lib.hid hb
  have HE := Lib.hid he
  clear hf hv ho hb he
  obtain ⟨i0, hi0, hz0, hs0, hb0⟩ := info_parts info_ce
  have IF := Lib.hid (And.intro hi0 (And.intro hz0 (And.intro hs0 hb0)))
  clear hi0 hz0 hs0 hb0
  obtain ⟨jj, hjj⟩ : ∃ jj : Nat, pk.tmod 24 = (jj : Int) ∧ jj < 24 := ⟨(pk.tmod 24).toNat, by have h1 := Int.tmod_nonneg 24 hp0; have h2 := Int.tmod_lt_of_pos pk (show (0 : Int) < 24 by decide); omega⟩
  obtain ⟨hj1, hj2⟩ := hjj
  have wp : IntKind.i64.wrap pk = pk := IntWalk.i64_in _ (by omega)
  go_enter Try.func9, Try.ntmps9
  go_wp2_with fail
  refine (head_true _).mono ?_
  rintro e w1 ⟨rfl, hb⟩
  replace SU := Lib.hid ((((SU.out.below (belowNew _ _)).below (belowNew _ _)).below (belowNew _ _)).below hb)
  replace SG := Lib.hid ((((SG.out.below (belowNew _ _)).below (belowNew _ _)).below (belowNew _ _)).below hb)
  replace SA := Lib.hid ((((SA.out.below (belowNew _ _)).below (belowNew _ _)).below (belowNew _ _)).below hb)
  have oT : Own w1 w.heap.size [.slice pu us.length cu, .slice pg gs.length cg, .slice pa ks.length ca] 26 := (((own_at _ _ rfl).alloc _).alloc _).below hb
  have oL : Own w1 (w.heap.size + 1) [.int .i64 N, .int .i64 D] 28 := ((own_at _ _ (by simp)).alloc _).below hb
  have oX : Own w1 (w.heap.size + 1 + 1) [.int .i64 x.s, .int .i64 x.o, .int .i64 x.p, .int .i64 x.m] 32 := (own_at _ _ (by simp)).below hb
  have bel := belowTo ((((Below.refl w.heap.size w).alloc (by simp) _).alloc (by simp) _).alloc (by simp; omega) _) hb (by simp; omega)
  clear hb
  obtain ⟨cT0, cT1, cT2, fT, zT⟩ := own3 oT
  obtain ⟨cL0, cL1, fL, zL⟩ := own2 oL
  obtain ⟨cX0, cX1, cX2, cX3, fX, zX⟩ := own4 oX
  go_wp2_with fail
  refine (few_lit _ _ _ us gs ks _ SU.out SG.out SA.out true HF.out).mono ?_
  rintro e w2 ⟨rfl, hb⟩
  replace oT := oT.below hb
  replace oL := oL.below hb
  replace oX := oX.below hb
  replace SU := Lib.hid (SU.out.below hb)
  replace SG := Lib.hid (SG.out.below hb)
  replace SA := Lib.hid (SA.out.below hb)
  replace bel := belowTo bel hb (by exact bel.size)
  clear hb
  clear cT0 cT1 cT2 fT zT cL0 cL1 fL zL cX0 cX1 cX2 cX3 fX zX
  obtain ⟨cT0, cT1, cT2, fT, zT⟩ := own3 oT
  obtain ⟨cL0, cL1, fL, zL⟩ := own2 oL
  obtain ⟨cX0, cX1, cX2, cX3, fX, zX⟩ := own4 oX
  go_wp2_with fail
  refine (rvalid_lit _ _ _ us gs ks N D _ SU.out SG.out SA.out (by omega) (by omega) (by omega) true HV.out).mono ?_
  rintro e w3 ⟨rfl, hb⟩
  replace oT := oT.below hb
  replace oL := oL.below hb
  replace oX := oX.below hb
  replace SU := Lib.hid (SU.out.below hb)
  replace SG := Lib.hid (SG.out.below hb)
  replace SA := Lib.hid (SA.out.below hb)
  replace bel := belowTo bel hb (by exact bel.size)
  clear hb
  clear cT0 cT1 cT2 fT zT cL0 cL1 fL zL cX0 cX1 cX2 cX3 fX zX
  obtain ⟨cT0, cT1, cT2, fT, zT⟩ := own3 oT
  obtain ⟨cL0, cL1, fL, zL⟩ := own2 oL
  obtain ⟨cX0, cX1, cX2, cX3, fX, zX⟩ := own4 oX
  go_wp2_with fail
  refine (ruval_lit x N D true _ HO.out).mono ?_
  rintro e w4 ⟨rfl, hb⟩
  replace oT := oT.below hb
  replace oL := oL.below hb
  replace oX := oX.below hb
  replace SU := Lib.hid (SU.out.below hb)
  replace SG := Lib.hid (SG.out.below hb)
  replace SA := Lib.hid (SA.out.below hb)
  replace bel := belowTo bel hb (by exact bel.size)
  clear hb
  clear cT0 cT1 cT2 fT zT cL0 cL1 fL zL cX0 cX1 cX2 cX3 fX zX
  obtain ⟨cT0, cT1, cT2, fT, zT⟩ := own3 oT
  obtain ⟨cL0, cL1, fL, zL⟩ := own2 oL
  obtain ⟨cX0, cX1, cX2, cX3, fX, zX⟩ := own4 oX
  go_wp2_with fail
  refine (rbusy_lit _ _ _ us gs x.s _ SU.out SG.out (by omega) (by omega) false HB.out).mono ?_
  rintro e w5 ⟨rfl, hb⟩
  replace oT := oT.below hb
  replace oL := oL.below hb
  replace oX := oX.below hb
  replace SU := Lib.hid (SU.out.below hb)
  replace SG := Lib.hid (SG.out.below hb)
  replace SA := Lib.hid (SA.out.below hb)
  replace bel := belowTo bel hb (by exact bel.size)
  clear hb
  clear cT0 cT1 cT2 fT zT cL0 cL1 fL zL cX0 cX1 cX2 cX3 fX zX
  obtain ⟨cT0, cT1, cT2, fT, zT⟩ := own3 oT
  obtain ⟨cL0, cL1, fL, zL⟩ := own2 oL
  obtain ⟨cX0, cX1, cX2, cX3, fX, zX⟩ := own4 oX
  go_wp2_with fail
  refine (addu_lit _ _ _ us gs ks N D _ SU.out SG.out SA.out x (by omega) (by omega) (by omega) 10 HE.out).mono ?_
  rintro e w6 ⟨vA1, vA2, vA3, rfl, z1, z2, z3, hb⟩
  replace oT := oT.below hb
  replace oL := oL.below hb
  replace oX := oX.below hb
  replace SU := Lib.hid (SU.out.below hb)
  replace SG := Lib.hid (SG.out.below hb)
  replace SA := Lib.hid (SA.out.below hb)
  replace bel := belowTo bel hb (by exact bel.size)
  clear hb
  clear cT0 cT1 cT2 fT zT cL0 cL1 fL zL cX0 cX1 cX2 cX3 fX zX
  obtain ⟨cT0, cT1, cT2, fT, zT⟩ := own3 oT
  obtain ⟨cL0, cL1, fL, zL⟩ := own2 oL
  obtain ⟨cX0, cX1, cX2, cX3, fX, zX⟩ := own4 oX
  have AU := Lib.hid (show SlU w6 vA1 [] from z1)
  have AG := Lib.hid (show SlG w6 vA2 [] from z2)
  have AA := Lib.hid (show SlA w6 vA3 [] from z3)
  clear z1 z2 z3
  obtain ⟨pA1, nA1, cA1, f0⟩ := AU.out.slc
  subst f0
  obtain ⟨pA2, nA2, cA2, f0⟩ := AG.out.slc
  subst f0
  obtain ⟨pA3, nA3, cA3, f0⟩ := AA.out.slc
  subst f0
  go_wp2_with fail
  have oA : Own (w6.alloc (Obj.cells #[.slice pA1 nA1 cA1, .slice pA2 nA2 cA2, .slice pA3 nA3 cA3] 26)) w6.heap.size [.slice pA1 nA1 cA1, .slice pA2 nA2 cA2, .slice pA3 nA3 cA3] 26 := own_at _ _ rfl
  have ltAT : w.heap.size < w6.heap.size := zT
  have ltAL : w.heap.size + 1 < w6.heap.size := zL
  have ltAX : w.heap.size + 1 + 1 < w6.heap.size := zX
  replace oT := oT.alloc (Obj.cells #[.slice pA1 nA1 cA1, .slice pA2 nA2 cA2, .slice pA3 nA3 cA3] 26)
  replace oL := oL.alloc (Obj.cells #[.slice pA1 nA1 cA1, .slice pA2 nA2 cA2, .slice pA3 nA3 cA3] 26)
  replace oX := oX.alloc (Obj.cells #[.slice pA1 nA1 cA1, .slice pA2 nA2 cA2, .slice pA3 nA3 cA3] 26)
  replace SU := Lib.hid (SU.out.below (belowNew w6 (Obj.cells #[.slice pA1 nA1 cA1, .slice pA2 nA2 cA2, .slice pA3 nA3 cA3] 26)))
  replace SG := Lib.hid (SG.out.below (belowNew w6 (Obj.cells #[.slice pA1 nA1 cA1, .slice pA2 nA2 cA2, .slice pA3 nA3 cA3] 26)))
  replace SA := Lib.hid (SA.out.below (belowNew w6 (Obj.cells #[.slice pA1 nA1 cA1, .slice pA2 nA2 cA2, .slice pA3 nA3 cA3] 26)))
  replace AU := Lib.hid (AU.out.below (belowNew w6 (Obj.cells #[.slice pA1 nA1 cA1, .slice pA2 nA2 cA2, .slice pA3 nA3 cA3] 26)))
  replace AG := Lib.hid (AG.out.below (belowNew w6 (Obj.cells #[.slice pA1 nA1 cA1, .slice pA2 nA2 cA2, .slice pA3 nA3 cA3] 26)))
  replace AA := Lib.hid (AA.out.below (belowNew w6 (Obj.cells #[.slice pA1 nA1 cA1, .slice pA2 nA2 cA2, .slice pA3 nA3 cA3] 26)))
  replace bel := bel.alloc bel.size (Obj.cells #[.slice pA1 nA1 cA1, .slice pA2 nA2 cA2, .slice pA3 nA3 cA3] 26)
  clear cT0 cT1 cT2 fT zT cL0 cL1 fL zL cX0 cX1 cX2 cX3 fX zX
  generalize w6.alloc (Obj.cells #[.slice pA1 nA1 cA1, .slice pA2 nA2 cA2, .slice pA3 nA3 cA3] 26) = w7 at oT oL oX oA SU SG SA AU AG AA bel ⊢
  obtain ⟨cT0, cT1, cT2, fT, zT⟩ := own3 oT
  obtain ⟨cL0, cL1, fL, zL⟩ := own2 oL
  obtain ⟨cX0, cX1, cX2, cX3, fX, zX⟩ := own4 oX
  obtain ⟨cA0, cA1, cA2, fA, zA⟩ := own3 oA
  go_wp2_with fail
  have OTh := Lib.hid oT
  have OLh := Lib.hid oL
  have OXh := Lib.hid oX
  have OAh := Lib.hid oA
  have BLh := Lib.hid bel
  clear oT oL oX oA bel
  go_loopw [13, 68] (fun out ii wr => ∃ (i : Nat), i ≤ us.length ∧ ii = .int .i64 i ∧ wr.ownsRow w7.heap.size 30 2 out i (flatT ceL ((us.take i).map ceU)) ∧ Below w7.heap.size w7 wr) (fun _ i _ => us.length - (intOf i).toNat)
  case atStart => exact ⟨0, by omega, rfl, World.ownsRow_nil _ _ _ _, Below.refl _ _⟩
  case round =>
    clear cT0 cT1 cT2 fT zT cL0 cL1 fL zL cX0 cX1 cX2 cX3 fX zX cA0 cA1 cA2 fA zA
    obtain ⟨i, hi, rfl, hown, bel7⟩ := hrel
    have HOWN := Lib.hid hown
    have BE := Lib.hid bel7
    clear hown bel7
    have j0 : (0 : Int) ≤ (i : Int) := Int.natCast_nonneg _
    have oTr := Lib.hid (OTh.out.below BE.out)
    obtain ⟨t0, t1, t2, fT, zT⟩ := own3 oTr.out
    by_cases hlt : i < us.length
    · obtain ⟨d, b, off, hd, rfl, hbl, _, d0, d1, d2, d3⟩ := SU.out.atU BE.out hlt
      have j1 : (i : Int) < (us.length : Int) := by omega
      have HD := Lib.hid (take_snocG hd)
      clear hd
      have oE := Lib.hid (own_at (w := wr) [.int .i64 d.s, .int .i64 d.o, .int .i64 d.p, .int .i64 d.m] 32 rfl)
      have HOW1 := Lib.hid (HOWN.out.alloc (.cells #[.int .i64 d.s, .int .i64 d.o, .int .i64 d.p, .int .i64 d.m] 32))
      have BE1 := Lib.hid (BE.out.alloc BE.out.size (.cells #[.int .i64 d.s, .int .i64 d.o, .int .i64 d.p, .int .i64 d.m] 32))
      obtain ⟨e0, e1, e2, e3, fE, zE⟩ := own4 oE.out
      go_wp2_with (at_builtin; refine wpList_append_own _ rfl _ _ 61 rfl w7.heap.size 30 i0 _ 2 16 (by kernel_rfl) IF.out.1 IF.out.2.1 IF.out.2.2.1 IF.out.2.2.2 rfl (by decide) _ i (flatT ceL ((us.take i).map ceU)) rfl (HOW1.out.alloc _) _ 1 1 (ceL.f (ceU d)) rfl rfl (newsTn (L := ceL) (w := (wr.alloc (.cells #[.int .i64 d.s, .int .i64 d.o, .int .i64 d.p, .int .i64 d.m] 32))) (by first | rfl | simp) (ceU d) 30) (ceL.one _) ?qc4 ?qc5 ?qc6 ?_)
      case qc4 => unfold maxLen; omega
      case qc5 => omega
      case qc6 => have := BE1.out.size; simp at this ⊢; omega
      intro v2 w2 hown hgrow hnil
      have B2 := Lib.hid ((BE1.out.alloc (by have := BE1.out.size; omega) _).grown hgrow (by have := BE1.out.size; simp at this ⊢; omega) (fun k hk => (HOWN.out.lt k hk).1))
      have H2 := Lib.hid hown
      clear hown hgrow hnil
      go_wp2_with fail
      go_roundw
      case rel => exact ⟨i + 1, by omega, by go_num, by have := H2.out; rw [HD.out, List.map_append, List.map_singleton, flatT_append, flatT_one]; simpa [Nat.add_assoc] using this, B2.out⟩
      case measure => simp [intOf]; omega
    · obtain rfl : i = us.length := by omega
      have HOWN2 := HOWN.out
      rw [List.take_length] at HOWN2
      replace HOWN := Lib.hid HOWN2
      clear HOWN2
      go_wp2_with fail
      go_loopw [13, 81] (fun out ii wr => ∃ (i : Nat), i ≤ gs.length ∧ ii = .int .i64 i ∧ wr.ownsRow w7.heap.size 30 2 out (us.length + i) (flatT ceL (us.map ceU ++ (gs.take i).map ceG)) ∧ Below w7.heap.size w7 wr) (fun _ i _ => gs.length - (intOf i).toNat)
      case atStart => exact ⟨0, by omega, rfl, by simpa using HOWN.out, BE.out⟩
      case round =>
        clear HOWN BE hlt hi j0 t0 t1 t2 fT zT oTr
        obtain ⟨i, hi, rfl, hown, bel7⟩ := hrel
        have HOWN := Lib.hid hown
        have BE := Lib.hid bel7
        clear hown bel7
        have j0 : (0 : Int) ≤ (i : Int) := Int.natCast_nonneg _
        have oTr := Lib.hid (OTh.out.below BE.out)
        obtain ⟨t0, t1, t2, fT, zT⟩ := own3 oTr.out
        by_cases hlt : i < gs.length
        · obtain ⟨d, b, off, hd, rfl, hbl, _, d0, d1, d2, d3, d4⟩ := SG.out.atG BE.out hlt
          have j1 : (i : Int) < (gs.length : Int) := by omega
          have HD := Lib.hid (take_snocG hd)
          clear hd
          have oE := Lib.hid (own_at (w := wr) [.int .i64 d.s, .int .i64 d.o, .int .i64 d.p, .int .i64 d.m, .int .i64 d.u] 34 rfl)
          have HOW1 := Lib.hid (HOWN.out.alloc (.cells #[.int .i64 d.s, .int .i64 d.o, .int .i64 d.p, .int .i64 d.m, .int .i64 d.u] 34))
          have BE1 := Lib.hid (BE.out.alloc BE.out.size (.cells #[.int .i64 d.s, .int .i64 d.o, .int .i64 d.p, .int .i64 d.m, .int .i64 d.u] 34))
          obtain ⟨e0, e1, e2, e3, e4, fE, zE⟩ := own5 oE.out
          go_wp2_with (at_builtin; refine wpList_append_own _ rfl _ _ 61 rfl w7.heap.size 30 i0 _ 2 16 (by kernel_rfl) IF.out.1 IF.out.2.1 IF.out.2.2.1 IF.out.2.2.2 rfl (by decide) _ (us.length + i) (flatT ceL (us.map ceU ++ (gs.take i).map ceG)) rfl (HOW1.out.alloc _) _ 1 1 (ceL.f (ceG d)) rfl rfl (newsTn (L := ceL) (w := (wr.alloc (.cells #[.int .i64 d.s, .int .i64 d.o, .int .i64 d.p, .int .i64 d.m, .int .i64 d.u] 34))) (by first | rfl | simp) (ceG d) 30) (ceL.one _) ?qc4 ?qc5 ?qc6 ?_)
          case qc4 => unfold maxLen; omega
          case qc5 => omega
          case qc6 => have := BE1.out.size; simp at this ⊢; omega
          intro v2 w2 hown hgrow hnil
          have B2 := Lib.hid ((BE1.out.alloc (by have := BE1.out.size; omega) _).grown hgrow (by have := BE1.out.size; simp at this ⊢; omega) (fun k hk => (HOWN.out.lt k hk).1))
          have H2 := Lib.hid hown
          clear hown hgrow hnil
          go_wp2_with fail
          go_roundw
          case rel => exact ⟨i + 1, by omega, by go_num, by have := H2.out; rw [HD.out, List.map_append, List.map_singleton, ← List.append_assoc, flatT_append, flatT_one]; simpa [Nat.add_assoc] using this, B2.out⟩
          case measure => simp [intOf]; omega
        · obtain rfl : i = gs.length := by omega
          have HOWN2 := HOWN.out
          rw [List.take_length] at HOWN2
          have HL := Lib.hid (show (us.map ceU ++ gs.map ceG).length = 24 by rw [List.length_append, List.length_map, List.length_map]; exact H24.out)
          have HH := Lib.hid (show SlT ceL wr _ (us.map ceU ++ gs.map ceG) from slt_of_own (L := ceL) (by rw [List.length_append, List.length_map, List.length_map]; exact HOWN2))
          clear HOWN2 HOWN
          obtain ⟨ph, ch, f0, hch, _, _⟩ := HH.out.form 24 HL.out
          subst f0
          obtain ⟨c, hb, hoff, hc, rfl, hbl, _, d0, d1⟩ := HH.out.atC (Below.refl _ _) (show jj < (us.map ceU ++ gs.map ceG).length by rw [HL.out]; exact hj2)
          have HC := Lib.hid (HR.out c (List.mem_of_getElem? hc))
          clear hc HR HH HL
          have j2 : (0 : Int) ≤ (jj : Int) := Int.natCast_nonneg _
          have j3 : (jj : Int) < 24 := by omega
          have oT := oTr.out
          have oL := OLh.out.below BE.out
          have oX := OXh.out.below BE.out
          have bel := belowTo BLh.out BE.out BLh.out.size
          replace SU := Lib.hid (SU.out.below BE.out)
          replace SG := Lib.hid (SG.out.below BE.out)
          replace SA := Lib.hid (SA.out.below BE.out)
          replace AU := Lib.hid (AU.out.below BE.out)
          replace AG := Lib.hid (AG.out.below BE.out)
          replace AA := Lib.hid (AA.out.below BE.out)
          clear oTr t0 t1 t2 fT zT
          obtain ⟨cT0, cT1, cT2, fT, zT⟩ := own3 oT
          obtain ⟨cL0, cL1, fL, zL⟩ := own2 oL
          obtain ⟨cX0, cX1, cX2, cX3, fX, zX⟩ := own4 oX
          go_wp2_with fail
          go_cut [18, 19] (fun s1 s2 wx => ∃ bZ : Nat, s1 = .pointer (some ⟨bZ, 0, none⟩) ∧ s2 = .int .i64 0 ∧ Below wr.heap.size wr wx)
          case first =>
            have OTr0 := Lib.hid oT.drew
            have OLr0 := Lib.hid oL.drew
            have OXr0 := Lib.hid oX.drew
            have BBr0 := Lib.hid (Below.refl wr.heap.size wr).drew
            have SUr0 := Lib.hid (SU.out.below (Below.refl _ _).drew)
            have SGr0 := Lib.hid (SG.out.below (Below.refl _ _).drew)
            have SAr0 := Lib.hid (SA.out.below (Below.refl _ _).drew)
            have AUr0 := Lib.hid (AU.out.below (Below.refl _ _).drew)
            have AGr0 := Lib.hid (AG.out.below (Below.refl _ _).drew)
            have AAr0 := Lib.hid (AA.out.below (Below.refl _ _).drew)
            clear oT cT0 cT1 cT2 fT zT
            clear oL cL0 cL1 fL zL
            clear oX cX0 cX1 cX2 cX3 fX zX
            clear bel SU SG SA AU AG AA
            obtain ⟨hTr00, hTr01, hTr02, _, _⟩ := own3 OTr0.out
            obtain ⟨hLr00, hLr01, _, _⟩ := own2 OLr0.out
            obtain ⟨hXr00, hXr01, hXr02, hXr03, _, _⟩ := own4 OXr0.out
            have er00 := (BBr0.out.cell (p := ⟨hb, hoff + jj * 2, none⟩) hbl).trans d0
            have er01 := (BBr0.out.cell (p := ⟨hb, hoff + jj * 2 + 1, none⟩) hbl).trans d1
            refine region_H 19 #[false, false, false, false, false, false, false, false, false, false, false, false, false, false, false, false, false, false, false] (by kernel_rfl) (by kernel_rfl) (fun w' => w'.cell? ⟨w.heap.size, 0, none⟩ = some (.slice pu us.length cu) ∧ w'.cell? ⟨w.heap.size, 1, none⟩ = some (.slice pg gs.length cg) ∧ w'.cell? ⟨w.heap.size, 2, none⟩ = some (.slice pa ks.length ca) ∧ w'.cell? ⟨w.heap.size + 1, 0, none⟩ = some (.int .i64 N) ∧ w'.cell? ⟨w.heap.size + 1, 1, none⟩ = some (.int .i64 D) ∧ w'.cell? ⟨w.heap.size + 1 + 1, 0, none⟩ = some (.int .i64 x.s) ∧ w'.cell? ⟨w.heap.size + 1 + 1, 1, none⟩ = some (.int .i64 x.o) ∧ w'.cell? ⟨w.heap.size + 1 + 1, 2, none⟩ = some (.int .i64 x.p) ∧ w'.cell? ⟨w.heap.size + 1 + 1, 3, none⟩ = some (.int .i64 x.m) ∧ w'.cell? ⟨hb, hoff + jj * 2, none⟩ = some (.int .i64 c.s) ∧ w'.cell? ⟨hb, hoff + jj * 2 + 1, none⟩ = some (.int .i64 c.o)) (by kernel_rfl) ?x52s (fun hHeld => ?x52r)
            case x52s => exact ⟨hTr00, hTr01, hTr02, hLr00, hLr01, hXr00, hXr01, hXr02, hXr03, er00, er01⟩
            refine wpH_take (i := 0) (some 92) (v := ?x53v) rfl (by kernel_rfl) (by kernel_rfl) (by kernel_rfl) rfl (fun _ _ _ h => h) (Or.inl ⟨by rfl, ?x53y⟩) hHeld ?x53r
            case x53y => (intro w hSw; (try dsimp only at hSw); go_simp; try with_reducible rfl)
            try simp only [Act.put, List.setIfInBounds_toArray, List.set_cons_zero, List.set_cons_succ]
            refine wpH_take (i := 1) (some 93) (v := ?x54v) rfl (by kernel_rfl) (by kernel_rfl) (by kernel_rfl) rfl (fun _ _ _ h => h) (Or.inl ⟨by rfl, ?x54y⟩) hHeld ?x54r
            case x54y => (intro w hSw; (try dsimp only at hSw); go_simp; try with_reducible rfl)
            try simp only [Act.put, List.setIfInBounds_toArray, List.set_cons_zero, List.set_cons_succ]
            refine wpH_take (i := 2) (some 94) (v := ?x55v) rfl (by kernel_rfl) (by kernel_rfl) (by kernel_rfl) rfl (fun _ _ _ h => h) (Or.inl ⟨by rfl, ?x55y⟩) hHeld ?x55r
            case x55y => (intro w hSw; (try dsimp only at hSw); go_simp; try with_reducible rfl)
            try simp only [Act.put, List.setIfInBounds_toArray, List.set_cons_zero, List.set_cons_succ]
            refine wpH_take (i := 3) (some 95) (v := ?x56v) rfl (by kernel_rfl) (by kernel_rfl) (by kernel_rfl) rfl (fun _ _ _ h => h) (Or.inl ⟨by rfl, ?x56y⟩) hHeld ?x56r
            case x56y => (intro w hSw; (try dsimp only at hSw); go_simp; try with_reducible rfl)
            try simp only [Act.put, List.setIfInBounds_toArray, List.set_cons_zero, List.set_cons_succ]
            refine wpH_take (i := 4) (some 96) (v := ?x57v) rfl (by kernel_rfl) (by kernel_rfl) (by kernel_rfl) rfl (fun _ _ _ h => h) (Or.inl ⟨by rfl, ?x57y⟩) hHeld ?x57r
            case x57y => (intro w hSw; (try dsimp only at hSw); go_simp; try with_reducible rfl)
            try simp only [Act.put, List.setIfInBounds_toArray, List.set_cons_zero, List.set_cons_succ]
            refine wpH_take (i := 5) (some 97) (v := ?x58v) rfl (by kernel_rfl) (by kernel_rfl) (by kernel_rfl) rfl (fun _ _ _ h => h) (Or.inl ⟨by rfl, ?x58y⟩) hHeld ?x58r
            case x58y => (intro w hSw; (try dsimp only at hSw); go_simp; try with_reducible rfl)
            try simp only [Act.put, List.setIfInBounds_toArray, List.set_cons_zero, List.set_cons_succ]
            refine wpH_take (i := 6) (some 98) (v := ?x59v) rfl (by kernel_rfl) (by kernel_rfl) (by kernel_rfl) rfl (fun _ _ _ h => h) (Or.inl ⟨by rfl, ?x59y⟩) hHeld ?x59r
            case x59y => (intro w hSw; (try dsimp only at hSw); go_simp; try with_reducible rfl)
            try simp only [Act.put, List.setIfInBounds_toArray, List.set_cons_zero, List.set_cons_succ]
            refine wpH_take (i := 7) (some 99) (v := ?x60v) rfl (by kernel_rfl) (by kernel_rfl) (by kernel_rfl) rfl (fun _ _ _ h => h) (Or.inl ⟨by rfl, ?x60y⟩) hHeld ?x60r
            case x60y => (intro w hSw; (try dsimp only at hSw); go_simp; try with_reducible rfl)
            try simp only [Act.put, List.setIfInBounds_toArray, List.set_cons_zero, List.set_cons_succ]
            refine wpH_take (i := 8) (some 100) (v := ?x61v) rfl (by kernel_rfl) (by kernel_rfl) (by kernel_rfl) rfl (fun _ _ _ h => h) (Or.inl ⟨by rfl, ?x61y⟩) hHeld ?x61r
            case x61y => (intro w hSw; (try dsimp only at hSw); go_simp; try with_reducible rfl)
            try simp only [Act.put, List.setIfInBounds_toArray, List.set_cons_zero, List.set_cons_succ]
            refine wpH_take (i := 10) (some 102) (v := ?x62v) rfl (by kernel_rfl) (by kernel_rfl) (by kernel_rfl) rfl (fun _ _ _ h => h) (Or.inl ⟨by rfl, ?x62y⟩) hHeld ?x62r
            case x62y => (intro w hSw; (try dsimp only at hSw); go_simp; try with_reducible rfl)
            try simp only [Act.put, List.setIfInBounds_toArray, List.set_cons_zero, List.set_cons_succ]
            refine wpH_take (i := 11) (some 103) (v := ?x63v) rfl (by kernel_rfl) (by kernel_rfl) (by kernel_rfl) rfl (fun _ _ _ h => h) (Or.inl ⟨by rfl, ?x63y⟩) hHeld ?x63r
            case x63y => (intro w hSw; (try dsimp only at hSw); go_simp; try with_reducible rfl)
            try simp only [Act.put, List.setIfInBounds_toArray, List.set_cons_zero, List.set_cons_succ]
            refine wpAnyH_ready (rs := [9, 16]) (by kernel_rfl) (by simp) (AllReadyH.cons rfl (fun K hK => ?x64a) (AllReadyH.cons rfl (fun K hK => ?x64b) AllReadyH.nil))
            case x64a =>
              rw [if_pos (by rfl)]
              go_simp
              refine (drop_any _ _ _ us gs ks c.s c.o _ SUr0.out SGr0.out SAr0.out (by omega) (by omega) (by omega)).mono ?_
              rintro e wr1 ⟨vy1, vy2, vy3, rfl, z1, z2, z3, hbb⟩
              have YUr1 := Lib.hid (show SlU wr1 vy1 (us.filter (fun d => !(d.s == c.s && d.o == c.o))) from z1)
              obtain ⟨pvy1, nvy1, cvy1, f0⟩ := YUr1.out.slc
              subst f0
              have YGr1 := Lib.hid (show SlG wr1 vy2 (gs.filter (fun d => !(d.s == c.s && d.o == c.o))) from z2)
              obtain ⟨pvy2, nvy2, cvy2, f0⟩ := YGr1.out.slc
              subst f0
              have YAr1 := Lib.hid (show SlA wr1 vy3 (ks.filter (fun d => !(d.s == c.s && d.o == c.o))) from z3)
              obtain ⟨pvy3, nvy3, cvy3, f0⟩ := YAr1.out.slc
              subst f0
              have OTr1 := Lib.hid (OTr0.out.below hbb)
              have OLr1 := Lib.hid (OLr0.out.below hbb)
              have OXr1 := Lib.hid (OXr0.out.below hbb)
              have BBr1 := Lib.hid (belowTo BBr0.out hbb BBr0.out.size)
              have SUr1 := Lib.hid (SUr0.out.below hbb)
              have SGr1 := Lib.hid (SGr0.out.below hbb)
              have SAr1 := Lib.hid (SAr0.out.below hbb)
              have AUr1 := Lib.hid (AUr0.out.below hbb)
              have AGr1 := Lib.hid (AGr0.out.below hbb)
              have AAr1 := Lib.hid (AAr0.out.below hbb)
              clear hbb
              obtain ⟨hTr10, hTr11, hTr12, _, _⟩ := own3 OTr1.out
              obtain ⟨hLr10, hLr11, _, _⟩ := own2 OLr1.out
              obtain ⟨hXr10, hXr11, hXr12, hXr13, _, _⟩ := own4 OXr1.out
              have er10 := (BBr1.out.cell (p := ⟨hb, hoff + jj * 2, none⟩) hbl).trans d0
              have er11 := (BBr1.out.cell (p := ⟨hb, hoff + jj * 2 + 1, none⟩) hbl).trans d1
              refine hK.out _ _ (⟨hTr10, hTr11, hTr12, hLr10, hLr11, hXr10, hXr11, hXr12, hXr13, er10, er11⟩) ?_
              clear hK K hHeld
              intro hHeld
              try simp only [Act.put, List.setIfInBounds_toArray, List.set_cons_zero, List.set_cons_succ]
              refine wpAnyH_ready (rs := [12, 16]) (by kernel_rfl) (by simp) (AllReadyH.cons rfl (fun K hK => ?x65a) (AllReadyH.cons rfl (fun K hK => ?x65b) AllReadyH.nil))
              case x65a =>
                rw [if_pos (by rfl)]
                go_simp
                refine (addu_lit _ _ _ (us.filter (fun d => !(d.s == c.s && d.o == c.o))) (gs.filter (fun d => !(d.s == c.s && d.o == c.o))) (ks.filter (fun d => !(d.s == c.s && d.o == c.o))) N D _ YUr1.out YGr1.out YAr1.out x (by have := List.length_filter_le (fun d : Us => !(d.s == c.s && d.o == c.o)) us; omega) (by have := List.length_filter_le (fun d : Gr => !(d.s == c.s && d.o == c.o)) gs; omega) (by have := List.length_filter_le (fun d : Ak => !(d.s == c.s && d.o == c.o)) ks; omega) 0 HC.out).mono ?_
                rintro e wr2 ⟨vq1, vq2, vq3, rfl, z1, z2, z3, hbb⟩
                have QUr2 := Lib.hid (z1)
                obtain ⟨pvq1, nvq1, cvq1, f0⟩ := QUr2.out.slc
                subst f0
                have QGr2 := Lib.hid (z2)
                obtain ⟨pvq2, nvq2, cvq2, f0⟩ := QGr2.out.slc
                subst f0
                have QAr2 := Lib.hid (z3)
                obtain ⟨pvq3, nvq3, cvq3, f0⟩ := QAr2.out.slc
                subst f0
                have OTr2 := Lib.hid (OTr1.out.below hbb)
                have OLr2 := Lib.hid (OLr1.out.below hbb)
                have OXr2 := Lib.hid (OXr1.out.below hbb)
                have BBr2 := Lib.hid (belowTo BBr1.out hbb BBr1.out.size)
                have SUr2 := Lib.hid (SUr1.out.below hbb)
                have SGr2 := Lib.hid (SGr1.out.below hbb)
                have SAr2 := Lib.hid (SAr1.out.below hbb)
                have AUr2 := Lib.hid (AUr1.out.below hbb)
                have AGr2 := Lib.hid (AGr1.out.below hbb)
                have AAr2 := Lib.hid (AAr1.out.below hbb)
                have YUr2 := Lib.hid (YUr1.out.below hbb)
                have YGr2 := Lib.hid (YGr1.out.below hbb)
                have YAr2 := Lib.hid (YAr1.out.below hbb)
                clear hbb
                obtain ⟨hTr20, hTr21, hTr22, _, _⟩ := own3 OTr2.out
                obtain ⟨hLr20, hLr21, _, _⟩ := own2 OLr2.out
                obtain ⟨hXr20, hXr21, hXr22, hXr23, _, _⟩ := own4 OXr2.out
                have er20 := (BBr2.out.cell (p := ⟨hb, hoff + jj * 2, none⟩) hbl).trans d0
                have er21 := (BBr2.out.cell (p := ⟨hb, hoff + jj * 2 + 1, none⟩) hbl).trans d1
                refine hK.out _ _ (⟨hTr20, hTr21, hTr22, hLr20, hLr21, hXr20, hXr21, hXr22, hXr23, er20, er21⟩) ?_
                clear hK K hHeld
                intro hHeld
                try simp only [Act.put, List.setIfInBounds_toArray, List.set_cons_zero, List.set_cons_succ]
                refine wpH_take (i := 13) (some 91) (v := ?x66v) rfl (by kernel_rfl) (by kernel_rfl) (by kernel_rfl) rfl (fun _ _ _ h => h) (Or.inl ⟨by rfl, ?x66y⟩) hHeld ?x66r
                case x66y => (intro w hSw; (try dsimp only at hSw); go_simp; try with_reducible rfl)
                try simp only [Act.put, List.setIfInBounds_toArray, List.set_cons_zero, List.set_cons_succ]
                refine wpH_take (i := 14) (some 105) (v := ?x67v) rfl (by kernel_rfl) (by kernel_rfl) (by kernel_rfl) rfl (fun _ _ _ h => h) (Or.inl ⟨by rfl, ?x67y⟩) hHeld ?x67r
                case x67y => (intro w hSw; (try dsimp only at hSw); go_simp; try with_reducible rfl)
                try simp only [Act.put, List.setIfInBounds_toArray, List.set_cons_zero, List.set_cons_succ]
                refine wpH_take (i := 15) (some 106) (v := ?x68v) rfl (by kernel_rfl) (by kernel_rfl) (by kernel_rfl) rfl (fun _ _ _ h => h) (Or.inl ⟨by rfl, ?x68y⟩) hHeld ?x68r
                case x68y => (intro w hSw; (try dsimp only at hSw); go_simp; try with_reducible rfl)
                try simp only [Act.put, List.setIfInBounds_toArray, List.set_cons_zero, List.set_cons_succ]
                refine wpH_one (i := 16) (by kernel_rfl) rfl (fun K hK => ?_)
                rw [if_pos (by rfl)]
                go_simp
                have ONr3 := Lib.hid (show Own (wr2.alloc (.cells #[.slice none 0 0, .slice none 0 0, .slice none 0 0] 26)) wr2.heap.size [.slice none 0 0, .slice none 0 0, .slice none 0 0] 26 from own_at _ _ rfl)
                have OTr3 := Lib.hid (show Own (wr2.alloc (.cells #[.slice none 0 0, .slice none 0 0, .slice none 0 0] 26)) (w.heap.size) [.slice pu us.length cu, .slice pg gs.length cg, .slice pa ks.length ca] 26 from (OTr2.out.alloc (.cells #[.slice none 0 0, .slice none 0 0, .slice none 0 0] 26)))
                have OLr3 := Lib.hid (show Own (wr2.alloc (.cells #[.slice none 0 0, .slice none 0 0, .slice none 0 0] 26)) (w.heap.size + 1) [.int .i64 N, .int .i64 D] 28 from (OLr2.out.alloc (.cells #[.slice none 0 0, .slice none 0 0, .slice none 0 0] 26)))
                have OXr3 := Lib.hid (show Own (wr2.alloc (.cells #[.slice none 0 0, .slice none 0 0, .slice none 0 0] 26)) (w.heap.size + 1 + 1) [.int .i64 x.s, .int .i64 x.o, .int .i64 x.p, .int .i64 x.m] 32 from (OXr2.out.alloc (.cells #[.slice none 0 0, .slice none 0 0, .slice none 0 0] 26)))
                have BBr3 := Lib.hid (show Below wr.heap.size wr (wr2.alloc (.cells #[.slice none 0 0, .slice none 0 0, .slice none 0 0] 26)) from (BBr2.out.alloc BBr2.out.size (.cells #[.slice none 0 0, .slice none 0 0, .slice none 0 0] 26)))
                have SUr3 := Lib.hid (SUr2.out.below (show Below _ _ (wr2.alloc (.cells #[.slice none 0 0, .slice none 0 0, .slice none 0 0] 26)) from belowNew _ (.cells #[.slice none 0 0, .slice none 0 0, .slice none 0 0] 26)))
                have SGr3 := Lib.hid (SGr2.out.below (show Below _ _ (wr2.alloc (.cells #[.slice none 0 0, .slice none 0 0, .slice none 0 0] 26)) from belowNew _ (.cells #[.slice none 0 0, .slice none 0 0, .slice none 0 0] 26)))
                have SAr3 := Lib.hid (SAr2.out.below (show Below _ _ (wr2.alloc (.cells #[.slice none 0 0, .slice none 0 0, .slice none 0 0] 26)) from belowNew _ (.cells #[.slice none 0 0, .slice none 0 0, .slice none 0 0] 26)))
                have AUr3 := Lib.hid (AUr2.out.below (show Below _ _ (wr2.alloc (.cells #[.slice none 0 0, .slice none 0 0, .slice none 0 0] 26)) from belowNew _ (.cells #[.slice none 0 0, .slice none 0 0, .slice none 0 0] 26)))
                have AGr3 := Lib.hid (AGr2.out.below (show Below _ _ (wr2.alloc (.cells #[.slice none 0 0, .slice none 0 0, .slice none 0 0] 26)) from belowNew _ (.cells #[.slice none 0 0, .slice none 0 0, .slice none 0 0] 26)))
                have AAr3 := Lib.hid (AAr2.out.below (show Below _ _ (wr2.alloc (.cells #[.slice none 0 0, .slice none 0 0, .slice none 0 0] 26)) from belowNew _ (.cells #[.slice none 0 0, .slice none 0 0, .slice none 0 0] 26)))
                have YUr3 := Lib.hid (YUr2.out.below (show Below _ _ (wr2.alloc (.cells #[.slice none 0 0, .slice none 0 0, .slice none 0 0] 26)) from belowNew _ (.cells #[.slice none 0 0, .slice none 0 0, .slice none 0 0] 26)))
                have YGr3 := Lib.hid (YGr2.out.below (show Below _ _ (wr2.alloc (.cells #[.slice none 0 0, .slice none 0 0, .slice none 0 0] 26)) from belowNew _ (.cells #[.slice none 0 0, .slice none 0 0, .slice none 0 0] 26)))
                have YAr3 := Lib.hid (YAr2.out.below (show Below _ _ (wr2.alloc (.cells #[.slice none 0 0, .slice none 0 0, .slice none 0 0] 26)) from belowNew _ (.cells #[.slice none 0 0, .slice none 0 0, .slice none 0 0] 26)))
                have QUr3 := Lib.hid (QUr2.out.below (show Below _ _ (wr2.alloc (.cells #[.slice none 0 0, .slice none 0 0, .slice none 0 0] 26)) from belowNew _ (.cells #[.slice none 0 0, .slice none 0 0, .slice none 0 0] 26)))
                have QGr3 := Lib.hid (QGr2.out.below (show Below _ _ (wr2.alloc (.cells #[.slice none 0 0, .slice none 0 0, .slice none 0 0] 26)) from belowNew _ (.cells #[.slice none 0 0, .slice none 0 0, .slice none 0 0] 26)))
                have QAr3 := Lib.hid (QAr2.out.below (show Below _ _ (wr2.alloc (.cells #[.slice none 0 0, .slice none 0 0, .slice none 0 0] 26)) from belowNew _ (.cells #[.slice none 0 0, .slice none 0 0, .slice none 0 0] 26)))
                obtain ⟨bN, hbN⟩ : ∃ bN, wr2.heap.size = bN := ⟨_, rfl⟩
                have LN := Lib.hid (show wr.heap.size ≤ bN from by rw [← hbN]; exact BBr2.out.size)
                have NE0 := Lib.hid (show ¬ w.heap.size = bN from by have h9 : w.heap.size < wr2.heap.size := OTr2.out.lt; omega)
                have NE1 := Lib.hid (show ¬ w.heap.size + 1 = bN from by have h9 : w.heap.size + 1 < wr2.heap.size := OLr2.out.lt; omega)
                have NE2 := Lib.hid (show ¬ w.heap.size + 1 + 1 = bN from by have h9 : w.heap.size + 1 + 1 < wr2.heap.size := OXr2.out.lt; omega)
                rw [hbN] at ONr3
                try rw [hbN]
                clear hbN
                generalize (wr2.alloc (.cells #[.slice none 0 0, .slice none 0 0, .slice none 0 0] 26)) = wr3 at ONr3 OTr3 OLr3 OXr3 BBr3 SUr3 SGr3 SAr3 AUr3 AGr3 AAr3 YUr3 YGr3 YAr3 QUr3 QGr3 QAr3 ⊢
                obtain ⟨hTr30, hTr31, hTr32, _, _⟩ := own3 OTr3.out
                obtain ⟨hLr30, hLr31, _, _⟩ := own2 OLr3.out
                obtain ⟨hXr30, hXr31, hXr32, hXr33, _, _⟩ := own4 OXr3.out
                have er30 := (BBr3.out.cell (p := ⟨hb, hoff + jj * 2, none⟩) hbl).trans d0
                have er31 := (BBr3.out.cell (p := ⟨hb, hoff + jj * 2 + 1, none⟩) hbl).trans d1
                obtain ⟨gr30, gr31, gr32, _, _⟩ := own3 ONr3.out
                refine hK.out _ _ (⟨hTr30, hTr31, hTr32, hLr30, hLr31, hXr30, hXr31, hXr32, hXr33, er30, er31⟩) ?_
                clear hK K hHeld
                intro hHeld
                try simp only [Act.put, List.setIfInBounds_toArray, List.set_cons_zero, List.set_cons_succ]
                refine wpH_one (i := 17) (by kernel_rfl) rfl (fun K hK => ?_)
                rw [if_pos (by rfl)]
                go_simp
                have NX0 := NE0.out
                have NX1 := NE1.out
                have NX2 := NE2.out
                refine hK.out _ _ (⟨(far3 (fun e => NX0 e.symm)).trans hTr30, (far3 (fun e => NX0 e.symm)).trans hTr31, (far3 (fun e => NX0 e.symm)).trans hTr32, (far3 (fun e => NX1 e.symm)).trans hLr30, (far3 (fun e => NX1 e.symm)).trans hLr31, (far3 (fun e => NX2 e.symm)).trans hXr30, (far3 (fun e => NX2 e.symm)).trans hXr31, (far3 (fun e => NX2 e.symm)).trans hXr32, (far3 (fun e => NX2 e.symm)).trans hXr33, (far3 (by have := LN.out; have := hbl; simp; omega)).trans er30, (far3 (by have := LN.out; have := hbl; simp; omega)).trans er31⟩) ?_
                clear hK K hHeld
                intro hHeld
                try simp only [Act.put, List.setIfInBounds_toArray, List.set_cons_zero, List.set_cons_succ]
                refine wpH_take (i := 18) (some 19) (v := ?x69v) rfl (by kernel_rfl) (by kernel_rfl) (by kernel_rfl) rfl (fun _ _ _ h => h) (Or.inl ⟨by rfl, ?x69y⟩) hHeld ?x69r
                case x69y => (intro w hSw; (try dsimp only at hSw); go_simp; try with_reducible rfl)
                try simp only [Act.put, List.setIfInBounds_toArray, List.set_cons_zero, List.set_cons_succ]
                refine wpAnyH_done (by kernel_rfl) ?_ _
                go_wp2_with fail
                go_meet
                exact ⟨_, rfl, rfl, below_set3 BBr3.out LN.out⟩
              case x65b =>
                rw [if_pos (by rfl)]
                go_simp
                have ONr5 := Lib.hid (show Own (wr1.alloc (.cells #[.slice none 0 0, .slice none 0 0, .slice none 0 0] 26)) wr1.heap.size [.slice none 0 0, .slice none 0 0, .slice none 0 0] 26 from own_at _ _ rfl)
                have OTr5 := Lib.hid (show Own (wr1.alloc (.cells #[.slice none 0 0, .slice none 0 0, .slice none 0 0] 26)) (w.heap.size) [.slice pu us.length cu, .slice pg gs.length cg, .slice pa ks.length ca] 26 from (OTr1.out.alloc (.cells #[.slice none 0 0, .slice none 0 0, .slice none 0 0] 26)))
                have OLr5 := Lib.hid (show Own (wr1.alloc (.cells #[.slice none 0 0, .slice none 0 0, .slice none 0 0] 26)) (w.heap.size + 1) [.int .i64 N, .int .i64 D] 28 from (OLr1.out.alloc (.cells #[.slice none 0 0, .slice none 0 0, .slice none 0 0] 26)))
                have OXr5 := Lib.hid (show Own (wr1.alloc (.cells #[.slice none 0 0, .slice none 0 0, .slice none 0 0] 26)) (w.heap.size + 1 + 1) [.int .i64 x.s, .int .i64 x.o, .int .i64 x.p, .int .i64 x.m] 32 from (OXr1.out.alloc (.cells #[.slice none 0 0, .slice none 0 0, .slice none 0 0] 26)))
                have BBr5 := Lib.hid (show Below wr.heap.size wr (wr1.alloc (.cells #[.slice none 0 0, .slice none 0 0, .slice none 0 0] 26)) from (BBr1.out.alloc BBr1.out.size (.cells #[.slice none 0 0, .slice none 0 0, .slice none 0 0] 26)))
                have SUr5 := Lib.hid (SUr1.out.below (show Below _ _ (wr1.alloc (.cells #[.slice none 0 0, .slice none 0 0, .slice none 0 0] 26)) from belowNew _ (.cells #[.slice none 0 0, .slice none 0 0, .slice none 0 0] 26)))
                have SGr5 := Lib.hid (SGr1.out.below (show Below _ _ (wr1.alloc (.cells #[.slice none 0 0, .slice none 0 0, .slice none 0 0] 26)) from belowNew _ (.cells #[.slice none 0 0, .slice none 0 0, .slice none 0 0] 26)))
                have SAr5 := Lib.hid (SAr1.out.below (show Below _ _ (wr1.alloc (.cells #[.slice none 0 0, .slice none 0 0, .slice none 0 0] 26)) from belowNew _ (.cells #[.slice none 0 0, .slice none 0 0, .slice none 0 0] 26)))
                have AUr5 := Lib.hid (AUr1.out.below (show Below _ _ (wr1.alloc (.cells #[.slice none 0 0, .slice none 0 0, .slice none 0 0] 26)) from belowNew _ (.cells #[.slice none 0 0, .slice none 0 0, .slice none 0 0] 26)))
                have AGr5 := Lib.hid (AGr1.out.below (show Below _ _ (wr1.alloc (.cells #[.slice none 0 0, .slice none 0 0, .slice none 0 0] 26)) from belowNew _ (.cells #[.slice none 0 0, .slice none 0 0, .slice none 0 0] 26)))
                have AAr5 := Lib.hid (AAr1.out.below (show Below _ _ (wr1.alloc (.cells #[.slice none 0 0, .slice none 0 0, .slice none 0 0] 26)) from belowNew _ (.cells #[.slice none 0 0, .slice none 0 0, .slice none 0 0] 26)))
                have YUr5 := Lib.hid (YUr1.out.below (show Below _ _ (wr1.alloc (.cells #[.slice none 0 0, .slice none 0 0, .slice none 0 0] 26)) from belowNew _ (.cells #[.slice none 0 0, .slice none 0 0, .slice none 0 0] 26)))
                have YGr5 := Lib.hid (YGr1.out.below (show Below _ _ (wr1.alloc (.cells #[.slice none 0 0, .slice none 0 0, .slice none 0 0] 26)) from belowNew _ (.cells #[.slice none 0 0, .slice none 0 0, .slice none 0 0] 26)))
                have YAr5 := Lib.hid (YAr1.out.below (show Below _ _ (wr1.alloc (.cells #[.slice none 0 0, .slice none 0 0, .slice none 0 0] 26)) from belowNew _ (.cells #[.slice none 0 0, .slice none 0 0, .slice none 0 0] 26)))
                obtain ⟨bN, hbN⟩ : ∃ bN, wr1.heap.size = bN := ⟨_, rfl⟩
                have LN := Lib.hid (show wr.heap.size ≤ bN from by rw [← hbN]; exact BBr1.out.size)
                have NE0 := Lib.hid (show ¬ w.heap.size = bN from by have h9 : w.heap.size < wr1.heap.size := OTr1.out.lt; omega)
                have NE1 := Lib.hid (show ¬ w.heap.size + 1 = bN from by have h9 : w.heap.size + 1 < wr1.heap.size := OLr1.out.lt; omega)
                have NE2 := Lib.hid (show ¬ w.heap.size + 1 + 1 = bN from by have h9 : w.heap.size + 1 + 1 < wr1.heap.size := OXr1.out.lt; omega)
                rw [hbN] at ONr5
                try rw [hbN]
                clear hbN
                generalize (wr1.alloc (.cells #[.slice none 0 0, .slice none 0 0, .slice none 0 0] 26)) = wr5 at ONr5 OTr5 OLr5 OXr5 BBr5 SUr5 SGr5 SAr5 AUr5 AGr5 AAr5 YUr5 YGr5 YAr5 ⊢
                obtain ⟨hTr50, hTr51, hTr52, _, _⟩ := own3 OTr5.out
                obtain ⟨hLr50, hLr51, _, _⟩ := own2 OLr5.out
                obtain ⟨hXr50, hXr51, hXr52, hXr53, _, _⟩ := own4 OXr5.out
                have er50 := (BBr5.out.cell (p := ⟨hb, hoff + jj * 2, none⟩) hbl).trans d0
                have er51 := (BBr5.out.cell (p := ⟨hb, hoff + jj * 2 + 1, none⟩) hbl).trans d1
                obtain ⟨gr50, gr51, gr52, _, _⟩ := own3 ONr5.out
                refine hK.out _ _ (⟨hTr50, hTr51, hTr52, hLr50, hLr51, hXr50, hXr51, hXr52, hXr53, er50, er51⟩) ?_
                clear hK K hHeld
                intro hHeld
                try simp only [Act.put, List.setIfInBounds_toArray, List.set_cons_zero, List.set_cons_succ]
                refine wpH_one (i := 12) (by kernel_rfl) rfl (fun K hK => ?_)
                rw [if_pos (by rfl)]
                go_simp
                refine (addu_lit _ _ _ (us.filter (fun d => !(d.s == c.s && d.o == c.o))) (gs.filter (fun d => !(d.s == c.s && d.o == c.o))) (ks.filter (fun d => !(d.s == c.s && d.o == c.o))) N D _ YUr5.out YGr5.out YAr5.out x (by have := List.length_filter_le (fun d : Us => !(d.s == c.s && d.o == c.o)) us; omega) (by have := List.length_filter_le (fun d : Gr => !(d.s == c.s && d.o == c.o)) gs; omega) (by have := List.length_filter_le (fun d : Ak => !(d.s == c.s && d.o == c.o)) ks; omega) 0 HC.out).mono ?_
                rintro e wr6 ⟨vq1, vq2, vq3, rfl, z1, z2, z3, hbb⟩
                have QUr6 := Lib.hid (z1)
                obtain ⟨pvq1, nvq1, cvq1, f0⟩ := QUr6.out.slc
                subst f0
                have QGr6 := Lib.hid (z2)
                obtain ⟨pvq2, nvq2, cvq2, f0⟩ := QGr6.out.slc
                subst f0
                have QAr6 := Lib.hid (z3)
                obtain ⟨pvq3, nvq3, cvq3, f0⟩ := QAr6.out.slc
                subst f0
                have OTr6 := Lib.hid (OTr5.out.below hbb)
                have OLr6 := Lib.hid (OLr5.out.below hbb)
                have OXr6 := Lib.hid (OXr5.out.below hbb)
                have ONr6 := Lib.hid (ONr5.out.below hbb)
                have BBr6 := Lib.hid (belowTo BBr5.out hbb BBr5.out.size)
                have SUr6 := Lib.hid (SUr5.out.below hbb)
                have SGr6 := Lib.hid (SGr5.out.below hbb)
                have SAr6 := Lib.hid (SAr5.out.below hbb)
                have AUr6 := Lib.hid (AUr5.out.below hbb)
                have AGr6 := Lib.hid (AGr5.out.below hbb)
                have AAr6 := Lib.hid (AAr5.out.below hbb)
                have YUr6 := Lib.hid (YUr5.out.below hbb)
                have YGr6 := Lib.hid (YGr5.out.below hbb)
                have YAr6 := Lib.hid (YAr5.out.below hbb)
                clear hbb
                obtain ⟨hTr60, hTr61, hTr62, _, _⟩ := own3 OTr6.out
                obtain ⟨hLr60, hLr61, _, _⟩ := own2 OLr6.out
                obtain ⟨hXr60, hXr61, hXr62, hXr63, _, _⟩ := own4 OXr6.out
                have er60 := (BBr6.out.cell (p := ⟨hb, hoff + jj * 2, none⟩) hbl).trans d0
                have er61 := (BBr6.out.cell (p := ⟨hb, hoff + jj * 2 + 1, none⟩) hbl).trans d1
                obtain ⟨gr60, gr61, gr62, _, _⟩ := own3 ONr6.out
                refine hK.out _ _ (⟨hTr60, hTr61, hTr62, hLr60, hLr61, hXr60, hXr61, hXr62, hXr63, er60, er61⟩) ?_
                clear hK K hHeld
                intro hHeld
                try simp only [Act.put, List.setIfInBounds_toArray, List.set_cons_zero, List.set_cons_succ]
                refine wpH_take (i := 13) (some 91) (v := ?x70v) rfl (by kernel_rfl) (by kernel_rfl) (by kernel_rfl) rfl (fun _ _ _ h => h) (Or.inl ⟨by rfl, ?x70y⟩) hHeld ?x70r
                case x70y => (intro w hSw; (try dsimp only at hSw); go_simp; try with_reducible rfl)
                try simp only [Act.put, List.setIfInBounds_toArray, List.set_cons_zero, List.set_cons_succ]
                refine wpH_take (i := 14) (some 105) (v := ?x71v) rfl (by kernel_rfl) (by kernel_rfl) (by kernel_rfl) rfl (fun _ _ _ h => h) (Or.inl ⟨by rfl, ?x71y⟩) hHeld ?x71r
                case x71y => (intro w hSw; (try dsimp only at hSw); go_simp; try with_reducible rfl)
                try simp only [Act.put, List.setIfInBounds_toArray, List.set_cons_zero, List.set_cons_succ]
                refine wpH_take (i := 15) (some 106) (v := ?x72v) rfl (by kernel_rfl) (by kernel_rfl) (by kernel_rfl) rfl (fun _ _ _ h => h) (Or.inl ⟨by rfl, ?x72y⟩) hHeld ?x72r
                case x72y => (intro w hSw; (try dsimp only at hSw); go_simp; try with_reducible rfl)
                try simp only [Act.put, List.setIfInBounds_toArray, List.set_cons_zero, List.set_cons_succ]
                refine wpH_one (i := 17) (by kernel_rfl) rfl (fun K hK => ?_)
                rw [if_pos (by rfl)]
                go_simp
                have NX0 := NE0.out
                have NX1 := NE1.out
                have NX2 := NE2.out
                refine hK.out _ _ (⟨(far3 (fun e => NX0 e.symm)).trans hTr60, (far3 (fun e => NX0 e.symm)).trans hTr61, (far3 (fun e => NX0 e.symm)).trans hTr62, (far3 (fun e => NX1 e.symm)).trans hLr60, (far3 (fun e => NX1 e.symm)).trans hLr61, (far3 (fun e => NX2 e.symm)).trans hXr60, (far3 (fun e => NX2 e.symm)).trans hXr61, (far3 (fun e => NX2 e.symm)).trans hXr62, (far3 (fun e => NX2 e.symm)).trans hXr63, (far3 (by have := LN.out; have := hbl; simp; omega)).trans er60, (far3 (by have := LN.out; have := hbl; simp; omega)).trans er61⟩) ?_
                clear hK K hHeld
                intro hHeld
                try simp only [Act.put, List.setIfInBounds_toArray, List.set_cons_zero, List.set_cons_succ]
                refine wpH_take (i := 18) (some 19) (v := ?x73v) rfl (by kernel_rfl) (by kernel_rfl) (by kernel_rfl) rfl (fun _ _ _ h => h) (Or.inl ⟨by rfl, ?x73y⟩) hHeld ?x73r
                case x73y => (intro w hSw; (try dsimp only at hSw); go_simp; try with_reducible rfl)
                try simp only [Act.put, List.setIfInBounds_toArray, List.set_cons_zero, List.set_cons_succ]
                refine wpAnyH_done (by kernel_rfl) ?_ _
                go_wp2_with fail
                go_meet
                exact ⟨_, rfl, rfl, below_set3 BBr6.out LN.out⟩
            case x64b =>
              rw [if_pos (by rfl)]
              go_simp
              have ONr8 := Lib.hid (show Own (wr.alloc (.cells #[.slice none 0 0, .slice none 0 0, .slice none 0 0] 26)).drew wr.heap.size [.slice none 0 0, .slice none 0 0, .slice none 0 0] 26 from (own_at _ _ rfl).drew)
              have OTr8 := Lib.hid (show Own (wr.alloc (.cells #[.slice none 0 0, .slice none 0 0, .slice none 0 0] 26)).drew (w.heap.size) [.slice pu us.length cu, .slice pg gs.length cg, .slice pa ks.length ca] 26 from (OTr0.out.alloc (.cells #[.slice none 0 0, .slice none 0 0, .slice none 0 0] 26)))
              have OLr8 := Lib.hid (show Own (wr.alloc (.cells #[.slice none 0 0, .slice none 0 0, .slice none 0 0] 26)).drew (w.heap.size + 1) [.int .i64 N, .int .i64 D] 28 from (OLr0.out.alloc (.cells #[.slice none 0 0, .slice none 0 0, .slice none 0 0] 26)))
              have OXr8 := Lib.hid (show Own (wr.alloc (.cells #[.slice none 0 0, .slice none 0 0, .slice none 0 0] 26)).drew (w.heap.size + 1 + 1) [.int .i64 x.s, .int .i64 x.o, .int .i64 x.p, .int .i64 x.m] 32 from (OXr0.out.alloc (.cells #[.slice none 0 0, .slice none 0 0, .slice none 0 0] 26)))
              have BBr8 := Lib.hid (show Below wr.heap.size wr (wr.alloc (.cells #[.slice none 0 0, .slice none 0 0, .slice none 0 0] 26)).drew from (BBr0.out.alloc BBr0.out.size (.cells #[.slice none 0 0, .slice none 0 0, .slice none 0 0] 26)))
              have SUr8 := Lib.hid (SUr0.out.below (show Below _ _ (wr.alloc (.cells #[.slice none 0 0, .slice none 0 0, .slice none 0 0] 26)).drew from belowNew _ (.cells #[.slice none 0 0, .slice none 0 0, .slice none 0 0] 26)))
              have SGr8 := Lib.hid (SGr0.out.below (show Below _ _ (wr.alloc (.cells #[.slice none 0 0, .slice none 0 0, .slice none 0 0] 26)).drew from belowNew _ (.cells #[.slice none 0 0, .slice none 0 0, .slice none 0 0] 26)))
              have SAr8 := Lib.hid (SAr0.out.below (show Below _ _ (wr.alloc (.cells #[.slice none 0 0, .slice none 0 0, .slice none 0 0] 26)).drew from belowNew _ (.cells #[.slice none 0 0, .slice none 0 0, .slice none 0 0] 26)))
              have AUr8 := Lib.hid (AUr0.out.below (show Below _ _ (wr.alloc (.cells #[.slice none 0 0, .slice none 0 0, .slice none 0 0] 26)).drew from belowNew _ (.cells #[.slice none 0 0, .slice none 0 0, .slice none 0 0] 26)))
              have AGr8 := Lib.hid (AGr0.out.below (show Below _ _ (wr.alloc (.cells #[.slice none 0 0, .slice none 0 0, .slice none 0 0] 26)).drew from belowNew _ (.cells #[.slice none 0 0, .slice none 0 0, .slice none 0 0] 26)))
              have AAr8 := Lib.hid (AAr0.out.below (show Below _ _ (wr.alloc (.cells #[.slice none 0 0, .slice none 0 0, .slice none 0 0] 26)).drew from belowNew _ (.cells #[.slice none 0 0, .slice none 0 0, .slice none 0 0] 26)))
              obtain ⟨bN, hbN⟩ : ∃ bN, wr.heap.size = bN := ⟨_, rfl⟩
              have LN := Lib.hid (show wr.heap.size ≤ bN from by rw [← hbN]; exact Nat.le_refl _)
              have NE0 := Lib.hid (show ¬ w.heap.size = bN from by have h9 : w.heap.size < wr.heap.size := OTr0.out.lt; omega)
              have NE1 := Lib.hid (show ¬ w.heap.size + 1 = bN from by have h9 : w.heap.size + 1 < wr.heap.size := OLr0.out.lt; omega)
              have NE2 := Lib.hid (show ¬ w.heap.size + 1 + 1 = bN from by have h9 : w.heap.size + 1 + 1 < wr.heap.size := OXr0.out.lt; omega)
              rw [hbN] at ONr8
              try rw [hbN]
              clear hbN
              generalize (wr.alloc (.cells #[.slice none 0 0, .slice none 0 0, .slice none 0 0] 26)).drew = wr8 at ONr8 OTr8 OLr8 OXr8 BBr8 SUr8 SGr8 SAr8 AUr8 AGr8 AAr8 ⊢
              obtain ⟨hTr80, hTr81, hTr82, _, _⟩ := own3 OTr8.out
              obtain ⟨hLr80, hLr81, _, _⟩ := own2 OLr8.out
              obtain ⟨hXr80, hXr81, hXr82, hXr83, _, _⟩ := own4 OXr8.out
              have er80 := (BBr8.out.cell (p := ⟨hb, hoff + jj * 2, none⟩) hbl).trans d0
              have er81 := (BBr8.out.cell (p := ⟨hb, hoff + jj * 2 + 1, none⟩) hbl).trans d1
              obtain ⟨gr80, gr81, gr82, _, _⟩ := own3 ONr8.out
              refine hK.out _ _ (⟨hTr80, hTr81, hTr82, hLr80, hLr81, hXr80, hXr81, hXr82, hXr83, er80, er81⟩) ?_
              clear hK K hHeld
              intro hHeld
              try simp only [Act.put, List.setIfInBounds_toArray, List.set_cons_zero, List.set_cons_succ]
              refine wpH_one (i := 9) (by kernel_rfl) rfl (fun K hK => ?_)
              rw [if_pos (by rfl)]
              go_simp
              refine (drop_any _ _ _ us gs ks c.s c.o _ SUr8.out SGr8.out SAr8.out (by omega) (by omega) (by omega)).mono ?_
              rintro e wr9 ⟨vy1, vy2, vy3, rfl, z1, z2, z3, hbb⟩
              have YUr9 := Lib.hid (show SlU wr9 vy1 (us.filter (fun d => !(d.s == c.s && d.o == c.o))) from z1)
              obtain ⟨pvy1, nvy1, cvy1, f0⟩ := YUr9.out.slc
              subst f0
              have YGr9 := Lib.hid (show SlG wr9 vy2 (gs.filter (fun d => !(d.s == c.s && d.o == c.o))) from z2)
              obtain ⟨pvy2, nvy2, cvy2, f0⟩ := YGr9.out.slc
              subst f0
              have YAr9 := Lib.hid (show SlA wr9 vy3 (ks.filter (fun d => !(d.s == c.s && d.o == c.o))) from z3)
              obtain ⟨pvy3, nvy3, cvy3, f0⟩ := YAr9.out.slc
              subst f0
              have OTr9 := Lib.hid (OTr8.out.below hbb)
              have OLr9 := Lib.hid (OLr8.out.below hbb)
              have OXr9 := Lib.hid (OXr8.out.below hbb)
              have ONr9 := Lib.hid (ONr8.out.below hbb)
              have BBr9 := Lib.hid (belowTo BBr8.out hbb BBr8.out.size)
              have SUr9 := Lib.hid (SUr8.out.below hbb)
              have SGr9 := Lib.hid (SGr8.out.below hbb)
              have SAr9 := Lib.hid (SAr8.out.below hbb)
              have AUr9 := Lib.hid (AUr8.out.below hbb)
              have AGr9 := Lib.hid (AGr8.out.below hbb)
              have AAr9 := Lib.hid (AAr8.out.below hbb)
              clear hbb
              obtain ⟨hTr90, hTr91, hTr92, _, _⟩ := own3 OTr9.out
              obtain ⟨hLr90, hLr91, _, _⟩ := own2 OLr9.out
              obtain ⟨hXr90, hXr91, hXr92, hXr93, _, _⟩ := own4 OXr9.out
              have er90 := (BBr9.out.cell (p := ⟨hb, hoff + jj * 2, none⟩) hbl).trans d0
              have er91 := (BBr9.out.cell (p := ⟨hb, hoff + jj * 2 + 1, none⟩) hbl).trans d1
              obtain ⟨gr90, gr91, gr92, _, _⟩ := own3 ONr9.out
              refine hK.out _ _ (⟨hTr90, hTr91, hTr92, hLr90, hLr91, hXr90, hXr91, hXr92, hXr93, er90, er91⟩) ?_
              clear hK K hHeld
              intro hHeld
              try simp only [Act.put, List.setIfInBounds_toArray, List.set_cons_zero, List.set_cons_succ]
              refine wpH_one (i := 12) (by kernel_rfl) rfl (fun K hK => ?_)
              rw [if_pos (by rfl)]
              go_simp
              refine (addu_lit _ _ _ (us.filter (fun d => !(d.s == c.s && d.o == c.o))) (gs.filter (fun d => !(d.s == c.s && d.o == c.o))) (ks.filter (fun d => !(d.s == c.s && d.o == c.o))) N D _ YUr9.out YGr9.out YAr9.out x (by have := List.length_filter_le (fun d : Us => !(d.s == c.s && d.o == c.o)) us; omega) (by have := List.length_filter_le (fun d : Gr => !(d.s == c.s && d.o == c.o)) gs; omega) (by have := List.length_filter_le (fun d : Ak => !(d.s == c.s && d.o == c.o)) ks; omega) 0 HC.out).mono ?_
              rintro e wr10 ⟨vq1, vq2, vq3, rfl, z1, z2, z3, hbb⟩
              have QUr10 := Lib.hid (z1)
              obtain ⟨pvq1, nvq1, cvq1, f0⟩ := QUr10.out.slc
              subst f0
              have QGr10 := Lib.hid (z2)
              obtain ⟨pvq2, nvq2, cvq2, f0⟩ := QGr10.out.slc
              subst f0
              have QAr10 := Lib.hid (z3)
              obtain ⟨pvq3, nvq3, cvq3, f0⟩ := QAr10.out.slc
              subst f0
              have OTr10 := Lib.hid (OTr9.out.below hbb)
              have OLr10 := Lib.hid (OLr9.out.below hbb)
              have OXr10 := Lib.hid (OXr9.out.below hbb)
              have ONr10 := Lib.hid (ONr9.out.below hbb)
              have BBr10 := Lib.hid (belowTo BBr9.out hbb BBr9.out.size)
              have SUr10 := Lib.hid (SUr9.out.below hbb)
              have SGr10 := Lib.hid (SGr9.out.below hbb)
              have SAr10 := Lib.hid (SAr9.out.below hbb)
              have AUr10 := Lib.hid (AUr9.out.below hbb)
              have AGr10 := Lib.hid (AGr9.out.below hbb)
              have AAr10 := Lib.hid (AAr9.out.below hbb)
              have YUr10 := Lib.hid (YUr9.out.below hbb)
              have YGr10 := Lib.hid (YGr9.out.below hbb)
              have YAr10 := Lib.hid (YAr9.out.below hbb)
              clear hbb
              obtain ⟨hTr100, hTr101, hTr102, _, _⟩ := own3 OTr10.out
              obtain ⟨hLr100, hLr101, _, _⟩ := own2 OLr10.out
              obtain ⟨hXr100, hXr101, hXr102, hXr103, _, _⟩ := own4 OXr10.out
              have er100 := (BBr10.out.cell (p := ⟨hb, hoff + jj * 2, none⟩) hbl).trans d0
              have er101 := (BBr10.out.cell (p := ⟨hb, hoff + jj * 2 + 1, none⟩) hbl).trans d1
              obtain ⟨gr100, gr101, gr102, _, _⟩ := own3 ONr10.out
              refine hK.out _ _ (⟨hTr100, hTr101, hTr102, hLr100, hLr101, hXr100, hXr101, hXr102, hXr103, er100, er101⟩) ?_
              clear hK K hHeld
              intro hHeld
              try simp only [Act.put, List.setIfInBounds_toArray, List.set_cons_zero, List.set_cons_succ]
              refine wpH_take (i := 13) (some 91) (v := ?x74v) rfl (by kernel_rfl) (by kernel_rfl) (by kernel_rfl) rfl (fun _ _ _ h => h) (Or.inl ⟨by rfl, ?x74y⟩) hHeld ?x74r
              case x74y => (intro w hSw; (try dsimp only at hSw); go_simp; try with_reducible rfl)
              try simp only [Act.put, List.setIfInBounds_toArray, List.set_cons_zero, List.set_cons_succ]
              refine wpH_take (i := 14) (some 105) (v := ?x75v) rfl (by kernel_rfl) (by kernel_rfl) (by kernel_rfl) rfl (fun _ _ _ h => h) (Or.inl ⟨by rfl, ?x75y⟩) hHeld ?x75r
              case x75y => (intro w hSw; (try dsimp only at hSw); go_simp; try with_reducible rfl)
              try simp only [Act.put, List.setIfInBounds_toArray, List.set_cons_zero, List.set_cons_succ]
              refine wpH_take (i := 15) (some 106) (v := ?x76v) rfl (by kernel_rfl) (by kernel_rfl) (by kernel_rfl) rfl (fun _ _ _ h => h) (Or.inl ⟨by rfl, ?x76y⟩) hHeld ?x76r
              case x76y => (intro w hSw; (try dsimp only at hSw); go_simp; try with_reducible rfl)
              try simp only [Act.put, List.setIfInBounds_toArray, List.set_cons_zero, List.set_cons_succ]
              refine wpH_one (i := 17) (by kernel_rfl) rfl (fun K hK => ?_)
              rw [if_pos (by rfl)]
              go_simp
              have NX0 := NE0.out
              have NX1 := NE1.out
              have NX2 := NE2.out
              refine hK.out _ _ (⟨(far3 (fun e => NX0 e.symm)).trans hTr100, (far3 (fun e => NX0 e.symm)).trans hTr101, (far3 (fun e => NX0 e.symm)).trans hTr102, (far3 (fun e => NX1 e.symm)).trans hLr100, (far3 (fun e => NX1 e.symm)).trans hLr101, (far3 (fun e => NX2 e.symm)).trans hXr100, (far3 (fun e => NX2 e.symm)).trans hXr101, (far3 (fun e => NX2 e.symm)).trans hXr102, (far3 (fun e => NX2 e.symm)).trans hXr103, (far3 (by have := LN.out; have := hbl; simp; omega)).trans er100, (far3 (by have := LN.out; have := hbl; simp; omega)).trans er101⟩) ?_
              clear hK K hHeld
              intro hHeld
              try simp only [Act.put, List.setIfInBounds_toArray, List.set_cons_zero, List.set_cons_succ]
              refine wpH_take (i := 18) (some 19) (v := ?x77v) rfl (by kernel_rfl) (by kernel_rfl) (by kernel_rfl) rfl (fun _ _ _ h => h) (Or.inl ⟨by rfl, ?x77y⟩) hHeld ?x77r
              case x77y => (intro w hSw; (try dsimp only at hSw); go_simp; try with_reducible rfl)
              try simp only [Act.put, List.setIfInBounds_toArray, List.set_cons_zero, List.set_cons_succ]
              refine wpAnyH_done (by kernel_rfl) ?_ _
              go_wp2_with fail
              go_meet
              exact ⟨_, rfl, rfl, below_set3 BBr10.out LN.out⟩
          case rest =>
            obtain ⟨bZr, rfl, rfl, hx⟩ := hcut
            clear cT0 cT1 cT2 fT zT cL0 cL1 fL zL cX0 cX1 cX2 cX3 fX zX
            replace oT := oT.below hx
            replace oL := oL.below hx
            replace oX := oX.below hx
            replace SU := Lib.hid (SU.out.below hx)
            replace SG := Lib.hid (SG.out.below hx)
            replace SA := Lib.hid (SA.out.below hx)
            replace AU := Lib.hid (AU.out.below hx)
            replace AG := Lib.hid (AG.out.below hx)
            replace AA := Lib.hid (AA.out.below hx)
            replace bel := belowTo bel hx bel.size
            clear hx
            generalize wc = w20 at *
            obtain ⟨cT0, cT1, cT2, fT, zT⟩ := own3 oT
            obtain ⟨cL0, cL1, fL, zL⟩ := own2 oL
            obtain ⟨cX0, cX1, cX2, cX3, fX, zX⟩ := own4 oX
            go_wp2_with fail
            go_ret
            exact ⟨rfl, bel⟩

theorem cellsRoom_walk (vu vg va : Value) (us : List Us) (gs : List Gr) (ks : List Ak) (N D : Int) (s o p m : Int) (pk : Int) (w : World) (su : SlU w vu us) (sg : SlG w vg gs) (sa : SlA w va ks) {q1 q2 q3 q4 q5 q6 : Prop} (_ : q1) (_ : q2) (_ : q3) (_ : q4) (_ : q5) (_ : q6) (hp : IntKind.u8.has pk) : Calls Try.prog 9 #[.agg #[vu, vg, va], .agg #[.int .i64 N, .int .i64 D], .agg #[.int .i64 s, .int .i64 o, .int .i64 p, .int .i64 m], .int .u8 pk] w fun e w' => e = .returned (.bool true) ∧ Below w.heap.size w w' := by
  have hp0 : 0 ≤ pk := by have h := hp; simp only [IntKind.has, IntKind.min, IntKind.max] at h; simp [IntKind.bits, IntKind.signed] at h; omega
  have hp1 : pk ≤ 255 := by have h := hp; simp only [IntKind.has, IntKind.min, IntKind.max] at h; simp [IntKind.bits, IntKind.signed] at h; omega
  cases hf : fewB us gs ks with
  | false => exact room_few vu vg va us gs ks N D ⟨s, o, p, m⟩ pk w su sg sa hp0 hp1 hf
  | true =>
    cases hv : vldT N D us gs ks with
    | false => exact room_bad vu vg va us gs ks N D ⟨s, o, p, m⟩ pk w su sg sa hp0 hp1 hf hv
    | true =>
      cases ho : usB N D ⟨s, o, p, m⟩ with
      | false => exact room_u vu vg va us gs ks N D ⟨s, o, p, m⟩ pk w su sg sa hp0 hp1 hf hv ho
      | true =>
        cases hb : bsyB s us gs with
        | true => exact room_b vu vg va us gs ks N D ⟨s, o, p, m⟩ pk w su sg sa hp0 hp1 hf hv ho hb
        | false =>
          by_cases hl : us.length + gs.length < 24
          · exact room_lt vu vg va us gs ks N D ⟨s, o, p, m⟩ pk w su sg sa hp0 hp1 hf hv ho hb hl
          · exact room_ge vu vg va us gs ks N D ⟨s, o, p, m⟩ pk w su sg sa hp0 hp1 hf hv ho hb hl

end Go.Proofs.Ytdmadnoijhmbcaa
