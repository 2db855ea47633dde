/- The reference's AddUse and AddGrant. -/
import Derived.Test.YtdmadnoijhmbcaaRExp12
import Derived.Test.YtdmadnoijhmbcaaRRef12
import Derived.Test.YtdmadnoijhmbcaaAdd12
import Derived.Test.YtdmadnoijhmbcaaLaw12p
namespace Go.Proofs.Ytdmadnoijhmbcaa
open Go.RowKit

theorem rins_len {α : Type} (sl : α → Int) (x : α) (l : List α) : ∀ s : Nat, (rinsL sl x s l).length ≤ s * (l.length + 1)
  | 0 => by simp [rinsL]
  | s + 1 => by
    have h1 := rins_len sl x l s
    have h2 := List.length_filter_le (fun d => sl d == (s : Int)) l
    rw [rinsL_succ, List.length_append, List.length_append, Nat.add_mul, Nat.one_mul]
    split <;> simp <;> omega
theorem rins_le {α : Type} (sl : α → Int) (x : α) {l : List α} {s : Nat} (hs : s ≤ 60) (hl : l.length ≤ 70) : (rinsL sl x s l).length ≤ 5000 := by
  have h1 := rins_len sl x l s
  have h2 : s * (l.length + 1) ≤ 60 * 71 := Nat.mul_le_mul hs (by omega)
  omega
theorem rinsU {N D : Int} {us : List Us} {gs : List Gr} {ks : List Ak} {x : Us} (h : auE N D us gs ks x = 0) : rinsL Us.s x D.toNat us = adU x us := by
  obtain ⟨hv, hx, hb, _⟩ := auE_ok h
  have hd := (layB_iff.1 hv.lay).2
  obtain ⟨b1, _⟩ := bsy_false.1 hb
  exact rinsL_eq hv.su b1 (fun d hd2 => by have := us_slot (hv.ou d hd2); omega) (by have := us_slot hx; omega)
theorem rinsG {N D : Int} {us : List Us} {gs : List Gr} {ks : List Ak} {x : Gr} (h : agE N D us gs ks x = 0) : rinsL Gr.s x D.toNat gs = adG x gs := by
  obtain ⟨hv, hx, hb, _⟩ := agE_ok h
  have hd := (layB_iff.1 hv.lay).2
  obtain ⟨_, b2⟩ := bsy_false.1 hb
  exact rinsL_eq hv.sg b2 (fun d hd2 => by have := gr_slot (hv.og d hd2); omega) (by have := gr_slot hx; omega)

set_option linter.unusedSimpArgs false in
set_option linter.unusedVariables false in
set_option maxRecDepth 100000 in
set_option maxHeartbeats 2000000 in
theorem raddu_bad (vu vg va : Value) (us : List Us) (gs : List Gr) (ks : List Ak) (N D : Int) (w : World) (su : SlU w vu us) (sg : SlG w vg gs) (sa : SlA w va ks) (x : Us) (u70 : us.length ≤ 70) (g70 : gs.length ≤ 70) (k70 : ks.length ≤ 70) (E : Int) (he : auE N D us gs ks x = E) (hn : ¬ E = 0) : Calls Try.prog 13 #[.agg #[vu, vg, va], .agg #[.int .i64 N, .int .i64 D], .agg #[.int .i64 x.s, .int .i64 x.o, .int .i64 x.p, .int .i64 x.m]] w fun e w' => AddP w [] [] [] E e w' := by
  obtain ⟨pu, cu, e0, hlu, hcu, _⟩ := su.form us.length rfl
  subst e0
  obtain ⟨pg, cg, e0, hlg, hcg, _⟩ := sg.form gs.length rfl
  subst e0
  obtain ⟨pa, ca, e0, hla, hca, _⟩ := sa.form ks.length rfl
  subst e0
  have SU := Lib.hid su
  have SG := Lib.hid sg
  have SA := Lib.hid sa
  clear su sg sa
  have iu0 : (0 : Int) ≤ (us.length : Int) := Int.natCast_nonneg _
  have ig0 : (0 : Int) ≤ (gs.length : Int) := Int.natCast_nonneg _
  have ia0 : (0 : Int) ≤ (ks.length : Int) := Int.natCast_nonneg _
  have iu : (us.length : Int) ≤ 70 := by omega
  have ig : (gs.length : Int) ≤ 70 := by omega
  have ia : (ks.length : Int) ≤ 70 := by omega
  have HE := Lib.hid (show refE N D us gs ks (usB N D x) x.s = E from he)
  clear he
  go_enter Try.func13, Try.ntmps13
  go_wp2_with fail
  have OTw := Lib.hid (((((own_at (w := w) (n := w.heap.size) [.slice pu us.length cu, .slice pg gs.length cg, .slice pa ks.length ca] 26 (by rfl)).alloc (.cells #[.int .i64 N, .int .i64 D] 28)).alloc (.cells #[.int .i64 x.s, .int .i64 x.o, .int .i64 x.p, .int .i64 x.m] 32)).alloc (.cells #[.slice none 0 0, .slice none 0 0, .slice none 0 0] 26)))
  have OLw := Lib.hid ((((own_at (w := (w.alloc (.cells #[.slice pu us.length cu, .slice pg gs.length cg, .slice pa ks.length ca] 26))) (n := w.heap.size + 1) [.int .i64 N, .int .i64 D] 28 (by simp)).alloc (.cells #[.int .i64 x.s, .int .i64 x.o, .int .i64 x.p, .int .i64 x.m] 32)).alloc (.cells #[.slice none 0 0, .slice none 0 0, .slice none 0 0] 26)))
  have OXw := Lib.hid (((own_at (w := ((w.alloc (.cells #[.slice pu us.length cu, .slice pg gs.length cg, .slice pa ks.length ca] 26)).alloc (.cells #[.int .i64 N, .int .i64 D] 28))) (n := w.heap.size + 1 + 1) [.int .i64 x.s, .int .i64 x.o, .int .i64 x.p, .int .i64 x.m] 32 (by simp)).alloc (.cells #[.slice none 0 0, .slice none 0 0, .slice none 0 0] 26)))
  have ORw := Lib.hid ((own_at (w := (((w.alloc (.cells #[.slice pu us.length cu, .slice pg gs.length cg, .slice pa ks.length ca] 26)).alloc (.cells #[.int .i64 N, .int .i64 D] 28)).alloc (.cells #[.int .i64 x.s, .int .i64 x.o, .int .i64 x.p, .int .i64 x.m] 32))) (n := w.heap.size + 1 + 1 + 1) [.slice none 0 0, .slice none 0 0, .slice none 0 0] 26 (by simp)))
  have BLw := Lib.hid ((((((Below.refl w.heap.size w).alloc (by simp) (.cells #[.slice pu us.length cu, .slice pg gs.length cg, .slice pa ks.length ca] 26)).alloc (by simp) (.cells #[.int .i64 N, .int .i64 D] 28)).alloc (by simp; omega) (.cells #[.int .i64 x.s, .int .i64 x.o, .int .i64 x.p, .int .i64 x.m] 32)).alloc (by simp; omega) (.cells #[.slice none 0 0, .slice none 0 0, .slice none 0 0] 26)))
  generalize ((((w.alloc (.cells #[.slice pu us.length cu, .slice pg gs.length cg, .slice pa ks.length ca] 26)).alloc (.cells #[.int .i64 N, .int .i64 D] 28)).alloc (.cells #[.int .i64 x.s, .int .i64 x.o, .int .i64 x.p, .int .i64 x.m] 32)).alloc (.cells #[.slice none 0 0, .slice none 0 0, .slice none 0 0] 26)) = wa at OTw OLw OXw ORw BLw ⊢
  have oT := OTw.out
  have oL := OLw.out
  have oX := OXw.out
  have oR := ORw.out
  have bel := BLw.out
  replace SU := Lib.hid (SU.out.below bel)
  replace SG := Lib.hid (SG.out.below bel)
  replace SA := Lib.hid (SA.out.below bel)
  clear OTw OLw OXw ORw BLw
  obtain ⟨cT0, cT1, cT2, fT, zT⟩ := own3 oT
  obtain ⟨cL0, cL1, fL, zL⟩ := own2 oL
  obtain ⟨cX0, cX1, cX2, cX3, fX, zX⟩ := own4 oX
  obtain ⟨cR0, cR1, cR2, fR, zR⟩ := own3 oR
  go_wp2_with fail
  have OTk0 := Lib.hid oT.drew
  have OLk0 := Lib.hid oL.drew
  have OXk0 := Lib.hid oX.drew
  have ORk0 := Lib.hid oR.drew
  have BBk0 := Lib.hid bel.drew
  have SUk0 := Lib.hid (SU.out.below (Below.refl _ _).drew)
  have SGk0 := Lib.hid (SG.out.below (Below.refl _ _).drew)
  have SAk0 := Lib.hid (SA.out.below (Below.refl _ _).drew)
  clear oT cT0 cT1 cT2 fT zT oL cL0 cL1 fL zL oX cX0 cX1 cX2 cX3 fX zX oR cR0 cR1 cR2 fR zR
  clear bel SU SG SA
  obtain ⟨hTk00, hTk01, hTk02, _, _⟩ := own3 OTk0.out
  obtain ⟨hLk00, hLk01, _, _⟩ := own2 OLk0.out
  obtain ⟨hXk00, hXk01, hXk02, hXk03, _, _⟩ := own4 OXk0.out
  obtain ⟨hRk00, hRk01, hRk02, _, _⟩ := own3 ORk0.out
  refine region_H 10 #[false, false, false, false, false, false, false, false, false, false] (by kernel_rfl) (by kernel_rfl) (fun w' => w'.cell? ⟨w.heap.size, 0, none⟩ = some (.slice pu us.length cu) ∧ w'.cell? ⟨w.heap.size, 1, none⟩ = some (.slice pg gs.length cg) ∧ w'.cell? ⟨w.heap.size, 2, none⟩ = some (.slice pa ks.length ca) ∧ w'.cell? ⟨w.heap.size + 1, 0, none⟩ = some (.int .i64 N) ∧ w'.cell? ⟨w.heap.size + 1, 1, none⟩ = some (.int .i64 D) ∧ w'.cell? ⟨w.heap.size + 1 + 1, 0, none⟩ = some (.int .i64 x.s) ∧ w'.cell? ⟨w.heap.size + 1 + 1, 1, none⟩ = some (.int .i64 x.o) ∧ w'.cell? ⟨w.heap.size + 1 + 1, 2, none⟩ = some (.int .i64 x.p) ∧ w'.cell? ⟨w.heap.size + 1 + 1, 3, none⟩ = some (.int .i64 x.m)) (by kernel_rfl) ?x1s (fun hHeld => ?x1r)
  case x1s => exact ⟨hTk00, hTk01, hTk02, hLk00, hLk01, hXk00, hXk01, hXk02, hXk03⟩
  refine wpH_take (i := 0) (some 12) (v := ?x2v) rfl (by kernel_rfl) (by kernel_rfl) (by kernel_rfl) rfl (fun _ _ _ h => h) (Or.inl ⟨by rfl, ?x2y⟩) hHeld ?x2r
  case x2y => (intro w hSw; (try dsimp only at hSw); go_simp; try with_reducible rfl)
  try simp only [Act.put, List.setIfInBounds_toArray, List.set_cons_zero, List.set_cons_succ]
  refine wpH_take (i := 1) (some 13) (v := ?x3v) rfl (by kernel_rfl) (by kernel_rfl) (by kernel_rfl) rfl (fun _ _ _ h => h) (Or.inl ⟨by rfl, ?x3y⟩) hHeld ?x3r
  case x3y => (intro w hSw; (try dsimp only at hSw); go_simp; try with_reducible rfl)
  try simp only [Act.put, List.setIfInBounds_toArray, List.set_cons_zero, List.set_cons_succ]
  refine wpH_take (i := 2) (some 14) (v := ?x4v) rfl (by kernel_rfl) (by kernel_rfl) (by kernel_rfl) rfl (fun _ _ _ h => h) (Or.inl ⟨by rfl, ?x4y⟩) hHeld ?x4r
  case x4y => (intro w hSw; (try dsimp only at hSw); go_simp; try with_reducible rfl)
  try simp only [Act.put, List.setIfInBounds_toArray, List.set_cons_zero, List.set_cons_succ]
  refine wpH_take (i := 3) (some 15) (v := ?x5v) rfl (by kernel_rfl) (by kernel_rfl) (by kernel_rfl) rfl (fun _ _ _ h => h) (Or.inl ⟨by rfl, ?x5y⟩) hHeld ?x5r
  case x5y => (intro w hSw; (try dsimp only at hSw); go_simp; try with_reducible rfl)
  try simp only [Act.put, List.setIfInBounds_toArray, List.set_cons_zero, List.set_cons_succ]
  refine wpH_take (i := 4) (some 16) (v := ?x6v) rfl (by kernel_rfl) (by kernel_rfl) (by kernel_rfl) rfl (fun _ _ _ h => h) (Or.inl ⟨by rfl, ?x6y⟩) hHeld ?x6r
  case x6y => (intro w hSw; (try dsimp only at hSw); go_simp; try with_reducible rfl)
  try simp only [Act.put, List.setIfInBounds_toArray, List.set_cons_zero, List.set_cons_succ]
  refine wpH_take (i := 5) (some 17) (v := ?x7v) rfl (by kernel_rfl) (by kernel_rfl) (by kernel_rfl) rfl (fun _ _ _ h => h) (Or.inl ⟨by rfl, ?x7y⟩) hHeld ?x7r
  case x7y => (intro w hSw; (try dsimp only at hSw); go_simp; try with_reducible rfl)
  try simp only [Act.put, List.setIfInBounds_toArray, List.set_cons_zero, List.set_cons_succ]
  refine wpH_take (i := 6) (some 18) (v := ?x8v) rfl (by kernel_rfl) (by kernel_rfl) (by kernel_rfl) rfl (fun _ _ _ h => h) (Or.inl ⟨by rfl, ?x8y⟩) hHeld ?x8r
  case x8y => (intro w hSw; (try dsimp only at hSw); go_simp; try with_reducible rfl)
  try simp only [Act.put, List.setIfInBounds_toArray, List.set_cons_zero, List.set_cons_succ]
  refine wpH_one (i := 7) (by kernel_rfl) rfl (fun K hK => ?_)
  rw [if_pos (by rfl)]
  go_simp
  refine (ruval_lit x N D (usB N D x) _ rfl).mono ?_
  rintro e wk1 ⟨rfl, hbb⟩
  have OTk1 := Lib.hid (OTk0.out.below hbb)
  have OLk1 := Lib.hid (OLk0.out.below hbb)
  have OXk1 := Lib.hid (OXk0.out.below hbb)
  have ORk1 := Lib.hid (ORk0.out.below hbb)
  have SUk1 := Lib.hid (SUk0.out.below hbb)
  have SGk1 := Lib.hid (SGk0.out.below hbb)
  have SAk1 := Lib.hid (SAk0.out.below hbb)
  have BBk1 := Lib.hid (belowTo BBk0.out hbb BBk0.out.size)
  clear hbb OTk0 OLk0 OXk0 ORk0 SUk0 SGk0 SAk0 BBk0 hTk00 hTk01 hTk02 hLk00 hLk01 hXk00 hXk01 hXk02 hXk03 hRk00 hRk01 hRk02
  obtain ⟨hTk10, hTk11, hTk12, _, _⟩ := own3 OTk1.out
  obtain ⟨hLk10, hLk11, _, _⟩ := own2 OLk1.out
  obtain ⟨hXk10, hXk11, hXk12, hXk13, _, _⟩ := own4 OXk1.out
  obtain ⟨hRk10, hRk11, hRk12, _, _⟩ := own3 ORk1.out
  refine hK.out _ _ (⟨hTk10, hTk11, hTk12, hLk10, hLk11, hXk10, hXk11, hXk12, hXk13⟩) ?_
  clear hK K hHeld
  intro hHeld
  try simp only [Act.put, List.setIfInBounds_toArray, List.set_cons_zero, List.set_cons_succ]
  refine wpH_one (i := 8) (by kernel_rfl) rfl (fun K hK => ?_)
  rw [if_pos (by rfl)]
  go_simp
  refine (rrfs_lit _ _ _ us gs ks N D _ SUk1.out SGk1.out SAk1.out x.s (usB N D x) u70 g70 k70 E HE.out).mono ?_
  rintro e wk2 ⟨rfl, hbb⟩
  have OTk2 := Lib.hid (OTk1.out.below hbb)
  have OLk2 := Lib.hid (OLk1.out.below hbb)
  have OXk2 := Lib.hid (OXk1.out.below hbb)
  have ORk2 := Lib.hid (ORk1.out.below hbb)
  have SUk2 := Lib.hid (SUk1.out.below hbb)
  have SGk2 := Lib.hid (SGk1.out.below hbb)
  have SAk2 := Lib.hid (SAk1.out.below hbb)
  have BBk2 := Lib.hid (belowTo BBk1.out hbb BBk1.out.size)
  clear hbb OTk1 OLk1 OXk1 ORk1 SUk1 SGk1 SAk1 BBk1 hTk10 hTk11 hTk12 hLk10 hLk11 hXk10 hXk11 hXk12 hXk13 hRk10 hRk11 hRk12
  obtain ⟨hTk20, hTk21, hTk22, _, _⟩ := own3 OTk2.out
  obtain ⟨hLk20, hLk21, _, _⟩ := own2 OLk2.out
  obtain ⟨hXk20, hXk21, hXk22, hXk23, _, _⟩ := own4 OXk2.out
  obtain ⟨hRk20, hRk21, hRk22, _, _⟩ := own3 ORk2.out
  refine hK.out _ _ (⟨hTk20, hTk21, hTk22, hLk20, hLk21, hXk20, hXk21, hXk22, hXk23⟩) ?_
  clear hK K hHeld
  intro hHeld
  try simp only [Act.put, List.setIfInBounds_toArray, List.set_cons_zero, List.set_cons_succ]
  refine wpH_take (i := 9) (some 8) (v := ?x11v) rfl (by kernel_rfl) (by kernel_rfl) (by kernel_rfl) rfl (fun _ _ _ h => h) (Or.inl ⟨by rfl, ?x11y⟩) hHeld ?x11r
  case x11y => (intro w hSw; (try dsimp only at hSw); go_simp; try with_reducible rfl)
  try simp only [Act.put, List.setIfInBounds_toArray, List.set_cons_zero, List.set_cons_succ]
  refine wpAnyH_done (by kernel_rfl) ?_ _
  have oT := OTk2.out
  have oL := OLk2.out
  have oX := OXk2.out
  have oR := ORk2.out
  have bel := BBk2.out
  have SU := SUk2
  have SG := SGk2
  have SA := SAk2
  clear OTk2 OLk2 OXk2 ORk2 BBk2 SUk2 SGk2 SAk2 hTk20 hTk21 hTk22 hLk20 hLk21 hXk20 hXk21 hXk22 hXk23 hRk20 hRk21 hRk22
  obtain ⟨cT0, cT1, cT2, fT, zT⟩ := own3 oT
  obtain ⟨cL0, cL1, fL, zL⟩ := own2 oL
  obtain ⟨cX0, cX1, cX2, cX3, fX, zX⟩ := own4 oX
  obtain ⟨cR0, cR1, cR2, fR, zR⟩ := own3 oR
  go_wp2_with fail
  refine bodyPost_ret (v := .tuple #[.agg #[.slice none 0 0, .slice none 0 0, .slice none 0 0], .int .i64 E]) (by simp [results, Try.results13, go_sem, *]) rfl ⟨_, _, _, rfl, slt_nil0 _ _, slt_nil0 _ _, slt_nil0 _ _, ?_⟩
  exact below_set3 bel (by omega)

set_option linter.unusedSimpArgs false in
set_option linter.unusedVariables false in
set_option maxRecDepth 100000 in
set_option maxHeartbeats 6000000 in
theorem raddu_ok (vu vg va : Value) (us : List Us) (gs : List Gr) (ks : List Ak) (N D : Int) (w : World) (su : SlU w vu us) (sg : SlG w vg gs) (sa : SlA w va ks) (x : Us) (u70 : us.length ≤ 70) (g70 : gs.length ≤ 70) (k70 : ks.length ≤ 70) (he : auE N D us gs ks x = 0) : Calls Try.prog 13 #[.agg #[vu, vg, va], .agg #[.int .i64 N, .int .i64 D], .agg #[.int .i64 x.s, .int .i64 x.o, .int .i64 x.p, .int .i64 x.m]] w fun e w' => AddP w (rinsL Us.s x D.toNat us) (gs) (una x.s ks) 0 e w' := by
  have hlay := (layB_iff.1 (auE_ok he).1.lay).2
  obtain ⟨pu, cu, e0, hlu, hcu, _⟩ := su.form us.length rfl
  subst e0
  obtain ⟨pg, cg, e0, hlg, hcg, _⟩ := sg.form gs.length rfl
  subst e0
  obtain ⟨pa, ca, e0, hla, hca, _⟩ := sa.form ks.length rfl
  subst e0
  have SU := Lib.hid su
  have SG := Lib.hid sg
  have SA := Lib.hid sa
  clear su sg sa
  have iu0 : (0 : Int) ≤ (us.length : Int) := Int.natCast_nonneg _
  have ig0 : (0 : Int) ≤ (gs.length : Int) := Int.natCast_nonneg _
  have ia0 : (0 : Int) ≤ (ks.length : Int) := Int.natCast_nonneg _
  have iu : (us.length : Int) ≤ 70 := by omega
  have ig : (gs.length : Int) ≤ 70 := by omega
  have ia : (ks.length : Int) ≤ 70 := by omega
  have HE := Lib.hid (show refE N D us gs ks (usB N D x) x.s = 0 from he)
  clear he
  obtain ⟨iU, hi, hz, hs0, hb0⟩ := info_parts info_u
  have IFU := Lib.hid (And.intro hi (And.intro hz (And.intro hs0 hb0)))
  clear hi hz hs0 hb0
  obtain ⟨iG, hi, hz, hs0, hb0⟩ := info_parts info_g
  have IFG := Lib.hid (And.intro hi (And.intro hz (And.intro hs0 hb0)))
  clear hi hz hs0 hb0
  have SU0 := SU
  have SG0 := SG
  have SA0 := SA
  go_enter Try.func13, Try.ntmps13
  go_wp2_with fail
  have OTw := Lib.hid (((((own_at (w := w) (n := w.heap.size) [.slice pu us.length cu, .slice pg gs.length cg, .slice pa ks.length ca] 26 (by rfl)).alloc (.cells #[.int .i64 N, .int .i64 D] 28)).alloc (.cells #[.int .i64 x.s, .int .i64 x.o, .int .i64 x.p, .int .i64 x.m] 32)).alloc (.cells #[.slice none 0 0, .slice none 0 0, .slice none 0 0] 26)))
  have OLw := Lib.hid ((((own_at (w := (w.alloc (.cells #[.slice pu us.length cu, .slice pg gs.length cg, .slice pa ks.length ca] 26))) (n := w.heap.size + 1) [.int .i64 N, .int .i64 D] 28 (by simp)).alloc (.cells #[.int .i64 x.s, .int .i64 x.o, .int .i64 x.p, .int .i64 x.m] 32)).alloc (.cells #[.slice none 0 0, .slice none 0 0, .slice none 0 0] 26)))
  have OXw := Lib.hid (((own_at (w := ((w.alloc (.cells #[.slice pu us.length cu, .slice pg gs.length cg, .slice pa ks.length ca] 26)).alloc (.cells #[.int .i64 N, .int .i64 D] 28))) (n := w.heap.size + 1 + 1) [.int .i64 x.s, .int .i64 x.o, .int .i64 x.p, .int .i64 x.m] 32 (by simp)).alloc (.cells #[.slice none 0 0, .slice none 0 0, .slice none 0 0] 26)))
  have ORw := Lib.hid ((own_at (w := (((w.alloc (.cells #[.slice pu us.length cu, .slice pg gs.length cg, .slice pa ks.length ca] 26)).alloc (.cells #[.int .i64 N, .int .i64 D] 28)).alloc (.cells #[.int .i64 x.s, .int .i64 x.o, .int .i64 x.p, .int .i64 x.m] 32))) (n := w.heap.size + 1 + 1 + 1) [.slice none 0 0, .slice none 0 0, .slice none 0 0] 26 (by simp)))
  have BLw := Lib.hid ((((((Below.refl w.heap.size w).alloc (by simp) (.cells #[.slice pu us.length cu, .slice pg gs.length cg, .slice pa ks.length ca] 26)).alloc (by simp) (.cells #[.int .i64 N, .int .i64 D] 28)).alloc (by simp; omega) (.cells #[.int .i64 x.s, .int .i64 x.o, .int .i64 x.p, .int .i64 x.m] 32)).alloc (by simp; omega) (.cells #[.slice none 0 0, .slice none 0 0, .slice none 0 0] 26)))
  generalize ((((w.alloc (.cells #[.slice pu us.length cu, .slice pg gs.length cg, .slice pa ks.length ca] 26)).alloc (.cells #[.int .i64 N, .int .i64 D] 28)).alloc (.cells #[.int .i64 x.s, .int .i64 x.o, .int .i64 x.p, .int .i64 x.m] 32)).alloc (.cells #[.slice none 0 0, .slice none 0 0, .slice none 0 0] 26)) = wa at OTw OLw OXw ORw BLw ⊢
  have oT := OTw.out
  have oL := OLw.out
  have oX := OXw.out
  have oR := ORw.out
  have bel := BLw.out
  replace SU := Lib.hid (SU.out.below bel)
  replace SG := Lib.hid (SG.out.below bel)
  replace SA := Lib.hid (SA.out.below bel)
  clear OTw OLw OXw ORw BLw
  obtain ⟨cT0, cT1, cT2, fT, zT⟩ := own3 oT
  obtain ⟨cL0, cL1, fL, zL⟩ := own2 oL
  obtain ⟨cX0, cX1, cX2, cX3, fX, zX⟩ := own4 oX
  obtain ⟨cR0, cR1, cR2, fR, zR⟩ := own3 oR
  go_wp2_with fail
  have OTk0 := Lib.hid oT.drew
  have OLk0 := Lib.hid oL.drew
  have OXk0 := Lib.hid oX.drew
  have ORk0 := Lib.hid oR.drew
  have BBk0 := Lib.hid bel.drew
  have SUk0 := Lib.hid (SU.out.below (Below.refl _ _).drew)
  have SGk0 := Lib.hid (SG.out.below (Below.refl _ _).drew)
  have SAk0 := Lib.hid (SA.out.below (Below.refl _ _).drew)
  clear oT cT0 cT1 cT2 fT zT oL cL0 cL1 fL zL oX cX0 cX1 cX2 cX3 fX zX oR cR0 cR1 cR2 fR zR
  clear bel SU SG SA
  obtain ⟨hTk00, hTk01, hTk02, _, _⟩ := own3 OTk0.out
  obtain ⟨hLk00, hLk01, _, _⟩ := own2 OLk0.out
  obtain ⟨hXk00, hXk01, hXk02, hXk03, _, _⟩ := own4 OXk0.out
  obtain ⟨hRk00, hRk01, hRk02, _, _⟩ := own3 ORk0.out
  refine region_H 10 #[false, false, false, false, false, false, false, false, false, false] (by kernel_rfl) (by kernel_rfl) (fun w' => w'.cell? ⟨w.heap.size, 0, none⟩ = some (.slice pu us.length cu) ∧ w'.cell? ⟨w.heap.size, 1, none⟩ = some (.slice pg gs.length cg) ∧ w'.cell? ⟨w.heap.size, 2, none⟩ = some (.slice pa ks.length ca) ∧ w'.cell? ⟨w.heap.size + 1, 0, none⟩ = some (.int .i64 N) ∧ w'.cell? ⟨w.heap.size + 1, 1, none⟩ = some (.int .i64 D) ∧ w'.cell? ⟨w.heap.size + 1 + 1, 0, none⟩ = some (.int .i64 x.s) ∧ w'.cell? ⟨w.heap.size + 1 + 1, 1, none⟩ = some (.int .i64 x.o) ∧ w'.cell? ⟨w.heap.size + 1 + 1, 2, none⟩ = some (.int .i64 x.p) ∧ w'.cell? ⟨w.heap.size + 1 + 1, 3, none⟩ = some (.int .i64 x.m)) (by kernel_rfl) ?x12s (fun hHeld => ?x12r)
  case x12s => exact ⟨hTk00, hTk01, hTk02, hLk00, hLk01, hXk00, hXk01, hXk02, hXk03⟩
  refine wpH_take (i := 0) (some 12) (v := ?x13v) rfl (by kernel_rfl) (by kernel_rfl) (by kernel_rfl) rfl (fun _ _ _ h => h) (Or.inl ⟨by rfl, ?x13y⟩) hHeld ?x13r
  case x13y => (intro w hSw; (try dsimp only at hSw); go_simp; try with_reducible rfl)
  try simp only [Act.put, List.setIfInBounds_toArray, List.set_cons_zero, List.set_cons_succ]
  refine wpH_take (i := 1) (some 13) (v := ?x14v) rfl (by kernel_rfl) (by kernel_rfl) (by kernel_rfl) rfl (fun _ _ _ h => h) (Or.inl ⟨by rfl, ?x14y⟩) hHeld ?x14r
  case x14y => (intro w hSw; (try dsimp only at hSw); go_simp; try with_reducible rfl)
  try simp only [Act.put, List.setIfInBounds_toArray, List.set_cons_zero, List.set_cons_succ]
  refine wpH_take (i := 2) (some 14) (v := ?x15v) rfl (by kernel_rfl) (by kernel_rfl) (by kernel_rfl) rfl (fun _ _ _ h => h) (Or.inl ⟨by rfl, ?x15y⟩) hHeld ?x15r
  case x15y => (intro w hSw; (try dsimp only at hSw); go_simp; try with_reducible rfl)
  try simp only [Act.put, List.setIfInBounds_toArray, List.set_cons_zero, List.set_cons_succ]
  refine wpH_take (i := 3) (some 15) (v := ?x16v) rfl (by kernel_rfl) (by kernel_rfl) (by kernel_rfl) rfl (fun _ _ _ h => h) (Or.inl ⟨by rfl, ?x16y⟩) hHeld ?x16r
  case x16y => (intro w hSw; (try dsimp only at hSw); go_simp; try with_reducible rfl)
  try simp only [Act.put, List.setIfInBounds_toArray, List.set_cons_zero, List.set_cons_succ]
  refine wpH_take (i := 4) (some 16) (v := ?x17v) rfl (by kernel_rfl) (by kernel_rfl) (by kernel_rfl) rfl (fun _ _ _ h => h) (Or.inl ⟨by rfl, ?x17y⟩) hHeld ?x17r
  case x17y => (intro w hSw; (try dsimp only at hSw); go_simp; try with_reducible rfl)
  try simp only [Act.put, List.setIfInBounds_toArray, List.set_cons_zero, List.set_cons_succ]
  refine wpH_take (i := 5) (some 17) (v := ?x18v) rfl (by kernel_rfl) (by kernel_rfl) (by kernel_rfl) rfl (fun _ _ _ h => h) (Or.inl ⟨by rfl, ?x18y⟩) hHeld ?x18r
  case x18y => (intro w hSw; (try dsimp only at hSw); go_simp; try with_reducible rfl)
  try simp only [Act.put, List.setIfInBounds_toArray, List.set_cons_zero, List.set_cons_succ]
  refine wpH_take (i := 6) (some 18) (v := ?x19v) rfl (by kernel_rfl) (by kernel_rfl) (by kernel_rfl) rfl (fun _ _ _ h => h) (Or.inl ⟨by rfl, ?x19y⟩) hHeld ?x19r
  case x19y => (intro w hSw; (try dsimp only at hSw); go_simp; try with_reducible rfl)
  try simp only [Act.put, List.setIfInBounds_toArray, List.set_cons_zero, List.set_cons_succ]
  refine wpH_one (i := 7) (by kernel_rfl) rfl (fun K hK => ?_)
  rw [if_pos (by rfl)]
  go_simp
  refine (ruval_lit x N D (usB N D x) _ rfl).mono ?_
  rintro e wk1 ⟨rfl, hbb⟩
  have OTk1 := Lib.hid (OTk0.out.below hbb)
  have OLk1 := Lib.hid (OLk0.out.below hbb)
  have OXk1 := Lib.hid (OXk0.out.below hbb)
  have ORk1 := Lib.hid (ORk0.out.below hbb)
  have SUk1 := Lib.hid (SUk0.out.below hbb)
  have SGk1 := Lib.hid (SGk0.out.below hbb)
  have SAk1 := Lib.hid (SAk0.out.below hbb)
  have BBk1 := Lib.hid (belowTo BBk0.out hbb BBk0.out.size)
  clear hbb OTk0 OLk0 OXk0 ORk0 SUk0 SGk0 SAk0 BBk0 hTk00 hTk01 hTk02 hLk00 hLk01 hXk00 hXk01 hXk02 hXk03 hRk00 hRk01 hRk02
  obtain ⟨hTk10, hTk11, hTk12, _, _⟩ := own3 OTk1.out
  obtain ⟨hLk10, hLk11, _, _⟩ := own2 OLk1.out
  obtain ⟨hXk10, hXk11, hXk12, hXk13, _, _⟩ := own4 OXk1.out
  obtain ⟨hRk10, hRk11, hRk12, _, _⟩ := own3 ORk1.out
  refine hK.out _ _ (⟨hTk10, hTk11, hTk12, hLk10, hLk11, hXk10, hXk11, hXk12, hXk13⟩) ?_
  clear hK K hHeld
  intro hHeld
  try simp only [Act.put, List.setIfInBounds_toArray, List.set_cons_zero, List.set_cons_succ]
  refine wpH_one (i := 8) (by kernel_rfl) rfl (fun K hK => ?_)
  rw [if_pos (by rfl)]
  go_simp
  refine (rrfs_lit _ _ _ us gs ks N D _ SUk1.out SGk1.out SAk1.out x.s (usB N D x) u70 g70 k70 0 HE.out).mono ?_
  rintro e wk2 ⟨rfl, hbb⟩
  have OTk2 := Lib.hid (OTk1.out.below hbb)
  have OLk2 := Lib.hid (OLk1.out.below hbb)
  have OXk2 := Lib.hid (OXk1.out.below hbb)
  have ORk2 := Lib.hid (ORk1.out.below hbb)
  have SUk2 := Lib.hid (SUk1.out.below hbb)
  have SGk2 := Lib.hid (SGk1.out.below hbb)
  have SAk2 := Lib.hid (SAk1.out.below hbb)
  have BBk2 := Lib.hid (belowTo BBk1.out hbb BBk1.out.size)
  clear hbb OTk1 OLk1 OXk1 ORk1 SUk1 SGk1 SAk1 BBk1 hTk10 hTk11 hTk12 hLk10 hLk11 hXk10 hXk11 hXk12 hXk13 hRk10 hRk11 hRk12
  obtain ⟨hTk20, hTk21, hTk22, _, _⟩ := own3 OTk2.out
  obtain ⟨hLk20, hLk21, _, _⟩ := own2 OLk2.out
  obtain ⟨hXk20, hXk21, hXk22, hXk23, _, _⟩ := own4 OXk2.out
  obtain ⟨hRk20, hRk21, hRk22, _, _⟩ := own3 ORk2.out
  refine hK.out _ _ (⟨hTk20, hTk21, hTk22, hLk20, hLk21, hXk20, hXk21, hXk22, hXk23⟩) ?_
  clear hK K hHeld
  intro hHeld
  try simp only [Act.put, List.setIfInBounds_toArray, List.set_cons_zero, List.set_cons_succ]
  refine wpH_take (i := 9) (some 8) (v := ?x22v) rfl (by kernel_rfl) (by kernel_rfl) (by kernel_rfl) rfl (fun _ _ _ h => h) (Or.inl ⟨by rfl, ?x22y⟩) hHeld ?x22r
  case x22y => (intro w hSw; (try dsimp only at hSw); go_simp; try with_reducible rfl)
  try simp only [Act.put, List.setIfInBounds_toArray, List.set_cons_zero, List.set_cons_succ]
  refine wpAnyH_done (by kernel_rfl) ?_ _
  have oT := OTk2.out
  have oL := OLk2.out
  have oX := OXk2.out
  have oR := ORk2.out
  have bel := BBk2.out
  have SU := SUk2
  have SG := SGk2
  have SA := SAk2
  clear OTk2 OLk2 OXk2 ORk2 BBk2 SUk2 SGk2 SAk2 hTk20 hTk21 hTk22 hLk20 hLk21 hXk20 hXk21 hXk22 hXk23 hRk20 hRk21 hRk22
  obtain ⟨cT0, cT1, cT2, fT, zT⟩ := own3 oT
  obtain ⟨cL0, cL1, fL, zL⟩ := own2 oL
  obtain ⟨cX0, cX1, cX2, cX3, fX, zX⟩ := own4 oX
  obtain ⟨cR0, cR1, cR2, fR, zR⟩ := own3 oR
  go_wp2_with fail
  refine (runa_any _ ks x.s _ SA.out (by omega)).mono ?_
  rintro e wn ⟨vn, rfl, hs, hb⟩
  replace oT := oT.below hb
  replace oL := oL.below hb
  replace oX := oX.below hb
  replace oR := oR.below hb
  replace SU := Lib.hid (SU.out.below hb)
  replace SG := Lib.hid (SG.out.below hb)
  replace SA := Lib.hid (SA.out.below hb)
  replace bel := belowTo bel hb (by exact bel.size)
  clear hb
  clear cT0 cT1 cT2 fT zT cL0 cL1 fL zL cX0 cX1 cX2 cX3 fX zX cR0 cR1 cR2 fR zR
  obtain ⟨cT0, cT1, cT2, fT, zT⟩ := own3 oT
  obtain ⟨cL0, cL1, fL, zL⟩ := own2 oL
  obtain ⟨cX0, cX1, cX2, cX3, fX, zX⟩ := own4 oX
  obtain ⟨cR0, cR1, cR2, fR, zR⟩ := own3 oR
  have NA := Lib.hid hs
  clear hs
  obtain ⟨pA1, nA1, cA1, f0⟩ := NA.out.slc
  subst f0
  go_upto_region 5 with fail
  have OTw := Lib.hid (oT.alloc (.cells #[.slice none 0 0, .slice none 0 0, .slice pA1 nA1 cA1] 26))
  have OLw := Lib.hid (oL.alloc (.cells #[.slice none 0 0, .slice none 0 0, .slice pA1 nA1 cA1] 26))
  have OXw := Lib.hid (oX.alloc (.cells #[.slice none 0 0, .slice none 0 0, .slice pA1 nA1 cA1] 26))
  have ORw := Lib.hid (oR.alloc (.cells #[.slice none 0 0, .slice none 0 0, .slice pA1 nA1 cA1] 26))
  have OOw := Lib.hid (own_at (w := wn) [.slice none 0 0, .slice none 0 0, .slice pA1 nA1 cA1] 26 rfl)
  have BLw := Lib.hid (bel.alloc bel.size (.cells #[.slice none 0 0, .slice none 0 0, .slice pA1 nA1 cA1] 26))
  replace NA := Lib.hid (NA.out.below (belowNew _ (.cells #[.slice none 0 0, .slice none 0 0, .slice pA1 nA1 cA1] 26)))
  have hrr := zR
  have hbl := bel.size
  clear cT0 cT1 cT2 fT zT cL0 cL1 fL zL cX0 cX1 cX2 cX3 fX zX cR0 cR1 cR2 fR zR oT oL oX oR bel SU SG SA
  have hsz : wn.heap.size < (wn.alloc (.cells #[.slice none 0 0, .slice none 0 0, .slice pA1 nA1 cA1] 26)).heap.size := by simp
  generalize wn.alloc (.cells #[.slice none 0 0, .slice none 0 0, .slice pA1 nA1 cA1] 26) = wb at OTw OLw OXw ORw OOw BLw NA hsz ⊢
  obtain ⟨bO, hbO⟩ : ∃ bO, wn.heap.size = bO := ⟨_, rfl⟩
  rw [hbO] at OOw hsz hrr hbl
  try rw [hbO]
  clear hbO
  obtain ⟨t0, t1, t2, fT, zT⟩ := own3 OTw.out
  obtain ⟨o0, o1, o2, fO, zO⟩ := own3 OOw.out
  have hz0 : wb.heap.size ≤ wb.heap.size := Nat.le_refl _
  have SC := Lib.hid (SG0.out.below BLw.out)
  go_wp2_with (at_builtin; refine copy_app (L := grL) rfl _ _ 23 rfl wb.heap.size 34 iG _ 40 (by kernel_rfl) IFG.out.1 IFG.out.2.1 IFG.out.2.2.1 IFG.out.2.2.2 rfl (by decide) _ gs rfl rfl SC.out (by omega) hz0 ?_)
  intro v2 w2 hown hgrow
  obtain ⟨pG1, nG1, cG1, f0⟩ := own_slc hown
  subst f0
  have BE := Lib.hid ((Belo.refl wb.heap.size bO wb).grown hgrow hz0 (fun k hk => by cases hk))
  have OO2 := Lib.hid (own_grown OOw.out hgrow (fun k hk => by cases hk))
  have H2 := Lib.hid hown
  clear hown hgrow t0 t1 t2 fT zT o0 o1 o2 fO zO SC hz0
  obtain ⟨o0, o1, o2, fO, zO⟩ := own3 OO2.out
  have OTm := Lib.hid (BE.out.own OTw.out (by omega) (by omega))
  obtain ⟨t0, t1, t2, fT, zT⟩ := own3 OTm.out
  go_upto_region 6 with fail
  have OO3 := Lib.hid (OO2.out.set 1 (.slice pG1 nG1 cG1))
  have BE3 := Lib.hid (BE.out.set 1 (.slice pG1 nG1 cG1))
  have H3 := Lib.hid (row_set H2.out (b := bO) (by omega) 1 (.slice pG1 nG1 cG1))
  clear OO2 BE H2 OTm t0 t1 t2 fT zT o0 o1 o2 fO zO
  generalize w2.setCell ⟨bO, 1, none⟩ (.slice pG1 nG1 cG1) = wc at OO3 BE3 H3 ⊢
  have hws := BE3.out.size
  have NG := Lib.hid (show SlG wc (.slice pG1 nG1 cG1) gs from slt_of_own (L := grL) H3.out)
  replace NA := Lib.hid (BE3.out.slt NA.out numA OOw.out)
  replace OTw := Lib.hid (BE3.out.own OTw.out (by omega) (by omega))
  replace OLw := Lib.hid (BE3.out.own OLw.out (by omega) (by omega))
  replace OXw := Lib.hid (BE3.out.own OXw.out (by omega) (by omega))
  replace ORw := Lib.hid (BE3.out.own ORw.out (by omega) (by omega))
  replace BLw := Lib.hid (BLw.out.trans (BE3.out.below (show w.heap.size ≤ bO by omega) (show w.heap.size ≤ wb.heap.size by omega)))
  replace OOw := OO3
  replace hsz : bO < wc.heap.size := by omega
  clear OO3 BE3 H3 hws
  obtain ⟨t0, t1, t2, fT, zT⟩ := own3 OTw.out
  obtain ⟨y0, y1, fL, zL⟩ := own2 OLw.out
  go_wp2_with fail
  go_loopw [10] (fun ii wz => ∃ (s : Nat) (row : Value) (qs : List Us), (s : Int) ≤ D ∧ ii = .int .i64 s ∧ qs = rinsL Us.s x s us ∧ Own wz bO [row, .slice pG1 nG1 cG1, .slice pA1 nA1 cA1] 26 ∧ wz.ownsRow wc.heap.size 32 4 row qs.length (flatT usL qs) ∧ Belo wc.heap.size bO wc wz) (fun j _ => D.toNat - (intOf j).toNat)
  case atStart => exact ⟨0, _, [], by have := hlay.1; omega, rfl, rfl, OOw.out, World.ownsRow_nil _ _ _ _, Belo.refl _ _ _⟩
  case round =>
    rename World => wq
    clear t0 t1 t2 fT zT y0 y1 fL zL
    obtain ⟨s, row, qs, hs, rfl, hq, hoo, hown, hbe⟩ := hrel
    have hl2 := hlay.2
    have hql : qs.length ≤ 5000 := by rw [hq]; exact rins_le Us.s x (by omega) (by omega)
    have HQ := Lib.hid hq
    have OOr := Lib.hid hoo
    have HOWN := Lib.hid hown
    have BE := Lib.hid hbe
    clear hq hoo hown hbe
    have s0 : (0 : Int) ≤ (s : Int) := Int.natCast_nonneg _
    have hWr := BE.out.size
    have OTr := Lib.hid (BE.out.own OTw.out (by omega) (by omega))
    have OLr := Lib.hid (BE.out.own OLw.out (by omega) (by omega))
    have OXr := Lib.hid (BE.out.own OXw.out (by omega) (by omega))
    have ORr := Lib.hid (BE.out.own ORw.out (by omega) (by omega))
    have BLr := Lib.hid (BLw.out.trans (BE.out.below (show w.heap.size ≤ bO by omega) (show w.heap.size ≤ wc.heap.size by omega)))
    have hwr := BLr.out.size
    obtain ⟨t0, t1, t2, fT, zT⟩ := own3 OTr.out
    obtain ⟨y0, y1, fL, zL⟩ := own2 OLr.out
    by_cases hsD : (s : Int) < D
    · go_wp2_with fail
      clear t0 t1 t2 fT zT y0 y1 fL zL
      go_loopw [11] (fun ii wz => ∃ (i : Nat) (row : Value) (qs : List Us), i ≤ us.length ∧ ii = .int .i64 i ∧ qs = rinsL Us.s x s us ++ (us.take i).filter (fun d => d.s == (s : Int)) ∧ Own wz bO [row, .slice pG1 nG1 cG1, .slice pA1 nA1 cA1] 26 ∧ wz.ownsRow wc.heap.size 32 4 row qs.length (flatT usL qs) ∧ Belo wc.heap.size bO wc wz) (fun i _ => us.length - (intOf i).toNat)
      case atStart => exact ⟨0, row, qs, by omega, rfl, by simpa using HQ.out, OOr.out, HOWN.out, BE.out⟩
      case round =>
        rename World => wr
        obtain ⟨i, row2, qs2, hi, rfl, hq, hoo, hown, hbe⟩ := hrel
        have hqm : qs2.length ≤ 6000 := by rw [hq, List.length_append]; have := filt_le (fun d => d.s == (s : Int)) us i; have := rins_le Us.s x (l := us) (s := s) (by omega) (by omega); omega
        have HQ2 := Lib.hid hq
        clear OOr HOWN BE OTr OLr OXr ORr BLr hwr hWr
        have OOr := Lib.hid hoo
        have HOWN := Lib.hid hown
        have BE := Lib.hid hbe
        clear hq hoo hown hbe
        have j0 : (0 : Int) ≤ (i : Int) := Int.natCast_nonneg _
        have hWr := BE.out.size
        have OTr := Lib.hid (BE.out.own OTw.out (by omega) (by omega))
        have OLr := Lib.hid (BE.out.own OLw.out (by omega) (by omega))
        have OXr := Lib.hid (BE.out.own OXw.out (by omega) (by omega))
        have ORr := Lib.hid (BE.out.own ORw.out (by omega) (by omega))
        have BLr := Lib.hid (BLw.out.trans (BE.out.below (show w.heap.size ≤ bO by omega) (show w.heap.size ≤ wc.heap.size by omega)))
        have hwr := BLr.out.size
        obtain ⟨t0, t1, t2, fT, zT⟩ := own3 OTr.out
        by_cases hlt : i < us.length
        · obtain ⟨d, b, off, hd, rfl, _, hbl, d0, d1, d2, d3⟩ := SU0.out.atU BLr.out hlt
          have j1 : (i : Int) < (us.length : Int) := by omega
          have HD := Lib.hid (take_filt (p := (fun d => d.s == (s : Int))) hd)
          clear hd
          cases hn : (d.s == (s : Int)) with
          | false =>
            have HN := Lib.hid hn
            go_wp2_with fail
            go_roundw
            case rel => exact ⟨i + 1, row2, qs2, by omega, by go_num, by rw [HD.out, HQ2.out, HN.out]; simp, OOr.out, HOWN.out, BE.out⟩
            case measure => simp [intOf]; omega
          | true =>
            have HN := Lib.hid hn
            have OTd := OTr
            have OOd := OOr
            have HOWd := HOWN
            have BEd := BE
            have BWd := Lib.hid (Below.refl w.heap.size wr)
            have hWd : wc.heap.size ≤ wr.heap.size := hWr
            have hwd : w.heap.size ≤ wr.heap.size := hwr
            go_wp2_with fail
            obtain ⟨o0, o1, o2, fO, zO⟩ := own3 OOd.out.drew
            refine region_H 11 #[false, false, false, false, false, false, false, false, false, false, false] (by kernel_rfl) (by kernel_rfl) (fun w' => w'.cell? ⟨w.heap.size, 0, none⟩ = some (.slice (some ⟨b, off, none⟩) us.length cu) ∧ w'.cell? ⟨b, off + i * 4, none⟩ = some (.int .i64 d.s) ∧ w'.cell? ⟨b, off + i * 4 + 1, none⟩ = some (.int .i64 d.o) ∧ w'.cell? ⟨b, off + i * 4 + 2, none⟩ = some (.int .i64 d.p) ∧ w'.cell? ⟨b, off + i * 4 + 3, none⟩ = some (.int .i64 d.m)) (by kernel_rfl) ?x23s (fun hHeld => ?x23r)
            case x23s => exact ⟨OTd.out.drew.cell (i := 0) rfl, (BWd.out.drew.cell (p := ⟨b, off + i * 4, none⟩) hbl).trans d0, (BWd.out.drew.cell (p := ⟨b, off + i * 4 + 1, none⟩) hbl).trans d1, (BWd.out.drew.cell (p := ⟨b, off + i * 4 + 2, none⟩) hbl).trans d2, (BWd.out.drew.cell (p := ⟨b, off + i * 4 + 3, none⟩) hbl).trans d3⟩
            refine wpH_take (i := 0) (some 60) (v := ?x24v) rfl (by kernel_rfl) (by kernel_rfl) (by kernel_rfl) rfl (fun _ _ _ h => h) (Or.inl ⟨by rfl, ?x24y⟩) hHeld ?x24r
            case x24y => (intro w hSw; (try dsimp only at hSw); go_simp; try with_reducible rfl)
            try simp only [Act.put, List.setIfInBounds_toArray, List.set_cons_zero, List.set_cons_succ]
            refine wpH_take (i := 2) (some 62) (v := ?x25v) rfl (by kernel_rfl) (by kernel_rfl) (by kernel_rfl) rfl (fun _ _ _ h => h) (Or.inl ⟨by rfl, ?x25y⟩) hHeld ?x25r
            case x25y => (intro w hSw; (try dsimp only at hSw); go_simp; try with_reducible rfl)
            try simp only [Act.put, List.setIfInBounds_toArray, List.set_cons_zero, List.set_cons_succ]
            refine wpH_take (i := 3) (some 63) (v := ?x26v) rfl (by kernel_rfl) (by kernel_rfl) (by kernel_rfl) rfl (fun _ _ _ h => h) (Or.inl ⟨by rfl, ?x26y⟩) hHeld ?x26r
            case x26y => (intro w hSw; (try dsimp only at hSw); go_simp; try with_reducible rfl)
            try simp only [Act.put, List.setIfInBounds_toArray, List.set_cons_zero, List.set_cons_succ]
            refine wpH_take (i := 4) (some 64) (v := ?x27v) rfl (by kernel_rfl) (by kernel_rfl) (by kernel_rfl) rfl (fun _ _ _ h => h) (Or.inl ⟨by rfl, ?x27y⟩) hHeld ?x27r
            case x27y => (intro w hSw; (try dsimp only at hSw); go_simp; try with_reducible rfl)
            try simp only [Act.put, List.setIfInBounds_toArray, List.set_cons_zero, List.set_cons_succ]
            refine wpH_take (i := 5) (some 65) (v := ?x28v) rfl (by kernel_rfl) (by kernel_rfl) (by kernel_rfl) rfl (fun _ _ _ h => h) (Or.inl ⟨by rfl, ?x28y⟩) hHeld ?x28r
            case x28y => (intro w hSw; (try dsimp only at hSw); go_simp; try with_reducible rfl)
            try simp only [Act.put, List.setIfInBounds_toArray, List.set_cons_zero, List.set_cons_succ]
            refine wpH_take (i := 6) (some 66) (v := ?x29v) rfl (by kernel_rfl) (by kernel_rfl) (by kernel_rfl) rfl (fun _ _ _ h => h) (Or.inl ⟨by rfl, ?x29y⟩) hHeld ?x29r
            case x29y => (intro w hSw; (try dsimp only at hSw); go_simp; try with_reducible rfl)
            try simp only [Act.put, List.setIfInBounds_toArray, List.set_cons_zero, List.set_cons_succ]
            refine wpAnyH_ready (rs := [1, 7]) (by kernel_rfl) (by simp) (AllReadyH.cons rfl (fun K hK => ?x30a) (AllReadyH.cons rfl (fun K hK => ?x30b) AllReadyH.nil))
            case x30a =>
              rw [if_pos (by rfl)]
              go_simp
              refine hK.out _ _ (⟨OTd.out.drew.cell (i := 0) rfl, (BWd.out.drew.cell (p := ⟨b, off + i * 4, none⟩) hbl).trans d0, (BWd.out.drew.cell (p := ⟨b, off + i * 4 + 1, none⟩) hbl).trans d1, (BWd.out.drew.cell (p := ⟨b, off + i * 4 + 2, none⟩) hbl).trans d2, (BWd.out.drew.cell (p := ⟨b, off + i * 4 + 3, none⟩) hbl).trans d3⟩) ?_
              clear hK K hHeld
              intro hHeld
              try simp only [Act.put, List.setIfInBounds_toArray, List.set_cons_zero, List.set_cons_succ]
              refine wpH_one (i := 7) (by kernel_rfl) rfl (fun K hK => ?_)
              rw [if_pos (by rfl)]
              go_simp
              have OTe := Lib.hid (show Own (wr.alloc (.cells #[.int .i64 d.s, .int .i64 d.o, .int .i64 d.p, .int .i64 d.m] 32)).drew w.heap.size [.slice (some ⟨b, off, none⟩) us.length cu, .slice pg gs.length cg, .slice pa ks.length ca] 26 from (OTd.out.alloc _).drew)
              have OOe := Lib.hid (show Own (wr.alloc (.cells #[.int .i64 d.s, .int .i64 d.o, .int .i64 d.p, .int .i64 d.m] 32)).drew bO [row2, .slice pG1 nG1 cG1, .slice pA1 nA1 cA1] 26 from (OOd.out.alloc _).drew)
              have HOWe := Lib.hid (show World.ownsRow (wr.alloc (.cells #[.int .i64 d.s, .int .i64 d.o, .int .i64 d.p, .int .i64 d.m] 32)).drew _ _ _ _ _ _ from (HOWd.out.alloc (.cells #[.int .i64 d.s, .int .i64 d.o, .int .i64 d.p, .int .i64 d.m] 32)).drew)
              have BEe := Lib.hid (show Belo _ _ _ (wr.alloc (.cells #[.int .i64 d.s, .int .i64 d.o, .int .i64 d.p, .int .i64 d.m] 32)).drew from (BEd.out.alloc hWd (.cells #[.int .i64 d.s, .int .i64 d.o, .int .i64 d.p, .int .i64 d.m] 32)).drew)
              have BWe := Lib.hid (show Below w.heap.size wr (wr.alloc (.cells #[.int .i64 d.s, .int .i64 d.o, .int .i64 d.p, .int .i64 d.m] 32)).drew from (BWd.out.alloc hwd (.cells #[.int .i64 d.s, .int .i64 d.o, .int .i64 d.p, .int .i64 d.m] 32)).drew)
              have NEWS := Lib.hid (show ∀ j u, (usL.f d)[j]? = some u → ((wr.alloc (.cells #[.int .i64 d.s, .int .i64 d.o, .int .i64 d.p, .int .i64 d.m] 32)).drew).cell? ((⟨wr.heap.size, 0, none⟩ : Addr).add j) = some u from newsT (L := usL) wr d 32)
              have hWe : wc.heap.size ≤ ((wr.alloc (.cells #[.int .i64 d.s, .int .i64 d.o, .int .i64 d.p, .int .i64 d.m] 32)).drew).heap.size := by simp; omega
              generalize (wr.alloc (.cells #[.int .i64 d.s, .int .i64 d.o, .int .i64 d.p, .int .i64 d.m] 32)).drew = we at OTe OOe HOWe BEe BWe NEWS hWe ⊢
              clear o0 o1 o2 fO zO
              obtain ⟨o0, o1, o2, fO, zO⟩ := own3 OOe.out
              refine hK.out _ _ (⟨OTe.out.cell (i := 0) rfl, (BWe.out.cell (p := ⟨b, off + i * 4, none⟩) hbl).trans d0, (BWe.out.cell (p := ⟨b, off + i * 4 + 1, none⟩) hbl).trans d1, (BWe.out.cell (p := ⟨b, off + i * 4 + 2, none⟩) hbl).trans d2, (BWe.out.cell (p := ⟨b, off + i * 4 + 3, none⟩) hbl).trans d3⟩) ?_
              clear hK K hHeld
              intro hHeld
              try simp only [Act.put, List.setIfInBounds_toArray, List.set_cons_zero, List.set_cons_succ]
              refine wpH_one (i := 8) (by kernel_rfl) rfl (fun K hK => ?_)
              rw [if_pos (by rfl)]
              refine wp_append_own _ _ _ 22 rfl wc.heap.size 32 iU _ 4 32 (by kernel_rfl) IFU.out.1 IFU.out.2.1 IFU.out.2.2.1 IFU.out.2.2.2 rfl (by decide) row2 qs2.length (flatT usL qs2) rfl HOWe.out _ 1 1 (usL.f d) rfl rfl NEWS.out (usL.one _) ?qc4 ?qc5 hWe ?qc7
              case qc4 => unfold maxLen; omega
              case qc5 => omega
              case qc7 =>
                intro v2 w2 hown hgrow hnil
                have hrl := HOWe.out.lt
                have BE2 := Lib.hid (BEe.out.grown hgrow hWe (fun k hk => (hrl k hk).1))
                have OO2 := Lib.hid (own_grown OOe.out hgrow (fun k hk => by have := (hrl k hk).1; omega))
                have OT2 := Lib.hid (own_grown OTe.out hgrow (fun k hk => by have := (hrl k hk).1; omega))
                have BW2 := Lib.hid (BWe.out.grown hgrow (by have := BWe.out.size; omega) (fun k hk => by have := (hrl k hk).1; omega))
                obtain ⟨p2, n2, c2, f0⟩ := own_slc hown
                subst f0
                have H2 := Lib.hid hown
                clear hown hgrow hnil o0 o1 o2 fO zO hrl
                obtain ⟨o0, o1, o2, fO, zO⟩ := own3 OO2.out
                refine hK.out _ _ (⟨OT2.out.cell (i := 0) rfl, (BW2.out.cell (p := ⟨b, off + i * 4, none⟩) hbl).trans d0, (BW2.out.cell (p := ⟨b, off + i * 4 + 1, none⟩) hbl).trans d1, (BW2.out.cell (p := ⟨b, off + i * 4 + 2, none⟩) hbl).trans d2, (BW2.out.cell (p := ⟨b, off + i * 4 + 3, none⟩) hbl).trans d3⟩) ?_
                clear hK K hHeld
                intro hHeld
                try simp only [Act.put, List.setIfInBounds_toArray, List.set_cons_zero, List.set_cons_succ]
                refine wpH_take (i := 9) (some 69) (v := ?x31v) rfl (by kernel_rfl) (by kernel_rfl) (by kernel_rfl) rfl (fun _ _ _ h => h) (Or.inl ⟨by rfl, ?x31y⟩) hHeld ?x31r
                case x31y => (intro w hSw; (try dsimp only at hSw); go_simp; try with_reducible rfl)
                try simp only [Act.put, List.setIfInBounds_toArray, List.set_cons_zero, List.set_cons_succ]
                refine wpH_one (i := 10) (by kernel_rfl) rfl (fun K hK => ?_)
                rw [if_pos (by rfl)]
                go_simp
                have OO3 := Lib.hid (OO2.out.set 0 (.slice p2 n2 c2))
                have BE3 := Lib.hid (BE2.out.set 0 (.slice p2 n2 c2))
                have H3 := Lib.hid (row_set H2.out (b := bO) (by omega) 0 (.slice p2 n2 c2))
                have OT3 := Lib.hid (OT2.out.other (a := ⟨bO, 0, none⟩) (by first | (simp; done) | (simp; omega)) (.slice p2 n2 c2))
                have BW3 := Lib.hid (BW2.out.setCell (p := ⟨bO, 0, none⟩) (by first | (simp; done) | (simp; omega)) (.slice p2 n2 c2))
                refine hK.out _ _ (⟨OT3.out.cell (i := 0) rfl, (BW3.out.cell (p := ⟨b, off + i * 4, none⟩) hbl).trans d0, (BW3.out.cell (p := ⟨b, off + i * 4 + 1, none⟩) hbl).trans d1, (BW3.out.cell (p := ⟨b, off + i * 4 + 2, none⟩) hbl).trans d2, (BW3.out.cell (p := ⟨b, off + i * 4 + 3, none⟩) hbl).trans d3⟩) ?_
                clear hK K hHeld
                intro hHeld
                try simp only [Act.put, List.setIfInBounds_toArray, List.set_cons_zero, List.set_cons_succ]
                refine wpAnyH_done (by kernel_rfl) ?_ _
                go_wp2_with fail
                go_roundw
                case rel => exact ⟨i + 1, .slice p2 n2 c2, qs2 ++ [d], by omega, by go_num, by rw [HD.out, HQ2.out, HN.out]; simp, OO3.out, by have := H3.out; rw [flatT_append, flatT_one]; simpa using this, BE3.out⟩
                case measure => simp [intOf]; omega
            case x30b =>
              rw [if_pos (by rfl)]
              go_simp
              have OTe := Lib.hid (show Own (wr.alloc (.cells #[.int .i64 d.s, .int .i64 d.o, .int .i64 d.p, .int .i64 d.m] 32)).drew w.heap.size [.slice (some ⟨b, off, none⟩) us.length cu, .slice pg gs.length cg, .slice pa ks.length ca] 26 from (OTd.out.alloc _).drew)
              have OOe := Lib.hid (show Own (wr.alloc (.cells #[.int .i64 d.s, .int .i64 d.o, .int .i64 d.p, .int .i64 d.m] 32)).drew bO [row2, .slice pG1 nG1 cG1, .slice pA1 nA1 cA1] 26 from (OOd.out.alloc _).drew)
              have HOWe := Lib.hid (show World.ownsRow (wr.alloc (.cells #[.int .i64 d.s, .int .i64 d.o, .int .i64 d.p, .int .i64 d.m] 32)).drew _ _ _ _ _ _ from (HOWd.out.alloc (.cells #[.int .i64 d.s, .int .i64 d.o, .int .i64 d.p, .int .i64 d.m] 32)).drew)
              have BEe := Lib.hid (show Belo _ _ _ (wr.alloc (.cells #[.int .i64 d.s, .int .i64 d.o, .int .i64 d.p, .int .i64 d.m] 32)).drew from (BEd.out.alloc hWd (.cells #[.int .i64 d.s, .int .i64 d.o, .int .i64 d.p, .int .i64 d.m] 32)).drew)
              have BWe := Lib.hid (show Below w.heap.size wr (wr.alloc (.cells #[.int .i64 d.s, .int .i64 d.o, .int .i64 d.p, .int .i64 d.m] 32)).drew from (BWd.out.alloc hwd (.cells #[.int .i64 d.s, .int .i64 d.o, .int .i64 d.p, .int .i64 d.m] 32)).drew)
              have NEWS := Lib.hid (show ∀ j u, (usL.f d)[j]? = some u → ((wr.alloc (.cells #[.int .i64 d.s, .int .i64 d.o, .int .i64 d.p, .int .i64 d.m] 32)).drew).cell? ((⟨wr.heap.size, 0, none⟩ : Addr).add j) = some u from newsT (L := usL) wr d 32)
              have hWe : wc.heap.size ≤ ((wr.alloc (.cells #[.int .i64 d.s, .int .i64 d.o, .int .i64 d.p, .int .i64 d.m] 32)).drew).heap.size := by simp; omega
              generalize (wr.alloc (.cells #[.int .i64 d.s, .int .i64 d.o, .int .i64 d.p, .int .i64 d.m] 32)).drew = we at OTe OOe HOWe BEe BWe NEWS hWe ⊢
              clear o0 o1 o2 fO zO
              obtain ⟨o0, o1, o2, fO, zO⟩ := own3 OOe.out
              refine hK.out _ _ (⟨OTe.out.cell (i := 0) rfl, (BWe.out.cell (p := ⟨b, off + i * 4, none⟩) hbl).trans d0, (BWe.out.cell (p := ⟨b, off + i * 4 + 1, none⟩) hbl).trans d1, (BWe.out.cell (p := ⟨b, off + i * 4 + 2, none⟩) hbl).trans d2, (BWe.out.cell (p := ⟨b, off + i * 4 + 3, none⟩) hbl).trans d3⟩) ?_
              clear hK K hHeld
              intro hHeld
              try simp only [Act.put, List.setIfInBounds_toArray, List.set_cons_zero, List.set_cons_succ]
              refine wpH_one (i := 1) (by kernel_rfl) rfl (fun K hK => ?_)
              rw [if_pos (by rfl)]
              go_simp
              refine hK.out _ _ (⟨OTe.out.cell (i := 0) rfl, (BWe.out.cell (p := ⟨b, off + i * 4, none⟩) hbl).trans d0, (BWe.out.cell (p := ⟨b, off + i * 4 + 1, none⟩) hbl).trans d1, (BWe.out.cell (p := ⟨b, off + i * 4 + 2, none⟩) hbl).trans d2, (BWe.out.cell (p := ⟨b, off + i * 4 + 3, none⟩) hbl).trans d3⟩) ?_
              clear hK K hHeld
              intro hHeld
              try simp only [Act.put, List.setIfInBounds_toArray, List.set_cons_zero, List.set_cons_succ]
              refine wpH_one (i := 8) (by kernel_rfl) rfl (fun K hK => ?_)
              rw [if_pos (by rfl)]
              refine wp_append_own _ _ _ 22 rfl wc.heap.size 32 iU _ 4 32 (by kernel_rfl) IFU.out.1 IFU.out.2.1 IFU.out.2.2.1 IFU.out.2.2.2 rfl (by decide) row2 qs2.length (flatT usL qs2) rfl HOWe.out _ 1 1 (usL.f d) rfl rfl NEWS.out (usL.one _) ?qc4 ?qc5 hWe ?qc7
              case qc4 => unfold maxLen; omega
              case qc5 => omega
              case qc7 =>
                intro v2 w2 hown hgrow hnil
                have hrl := HOWe.out.lt
                have BE2 := Lib.hid (BEe.out.grown hgrow hWe (fun k hk => (hrl k hk).1))
                have OO2 := Lib.hid (own_grown OOe.out hgrow (fun k hk => by have := (hrl k hk).1; omega))
                have OT2 := Lib.hid (own_grown OTe.out hgrow (fun k hk => by have := (hrl k hk).1; omega))
                have BW2 := Lib.hid (BWe.out.grown hgrow (by have := BWe.out.size; omega) (fun k hk => by have := (hrl k hk).1; omega))
                obtain ⟨p2, n2, c2, f0⟩ := own_slc hown
                subst f0
                have H2 := Lib.hid hown
                clear hown hgrow hnil o0 o1 o2 fO zO hrl
                obtain ⟨o0, o1, o2, fO, zO⟩ := own3 OO2.out
                refine hK.out _ _ (⟨OT2.out.cell (i := 0) rfl, (BW2.out.cell (p := ⟨b, off + i * 4, none⟩) hbl).trans d0, (BW2.out.cell (p := ⟨b, off + i * 4 + 1, none⟩) hbl).trans d1, (BW2.out.cell (p := ⟨b, off + i * 4 + 2, none⟩) hbl).trans d2, (BW2.out.cell (p := ⟨b, off + i * 4 + 3, none⟩) hbl).trans d3⟩) ?_
                clear hK K hHeld
                intro hHeld
                try simp only [Act.put, List.setIfInBounds_toArray, List.set_cons_zero, List.set_cons_succ]
                refine wpH_take (i := 9) (some 69) (v := ?x32v) rfl (by kernel_rfl) (by kernel_rfl) (by kernel_rfl) rfl (fun _ _ _ h => h) (Or.inl ⟨by rfl, ?x32y⟩) hHeld ?x32r
                case x32y => (intro w hSw; (try dsimp only at hSw); go_simp; try with_reducible rfl)
                try simp only [Act.put, List.setIfInBounds_toArray, List.set_cons_zero, List.set_cons_succ]
                refine wpH_one (i := 10) (by kernel_rfl) rfl (fun K hK => ?_)
                rw [if_pos (by rfl)]
                go_simp
                have OO3 := Lib.hid (OO2.out.set 0 (.slice p2 n2 c2))
                have BE3 := Lib.hid (BE2.out.set 0 (.slice p2 n2 c2))
                have H3 := Lib.hid (row_set H2.out (b := bO) (by omega) 0 (.slice p2 n2 c2))
                have OT3 := Lib.hid (OT2.out.other (a := ⟨bO, 0, none⟩) (by first | (simp; done) | (simp; omega)) (.slice p2 n2 c2))
                have BW3 := Lib.hid (BW2.out.setCell (p := ⟨bO, 0, none⟩) (by first | (simp; done) | (simp; omega)) (.slice p2 n2 c2))
                refine hK.out _ _ (⟨OT3.out.cell (i := 0) rfl, (BW3.out.cell (p := ⟨b, off + i * 4, none⟩) hbl).trans d0, (BW3.out.cell (p := ⟨b, off + i * 4 + 1, none⟩) hbl).trans d1, (BW3.out.cell (p := ⟨b, off + i * 4 + 2, none⟩) hbl).trans d2, (BW3.out.cell (p := ⟨b, off + i * 4 + 3, none⟩) hbl).trans d3⟩) ?_
                clear hK K hHeld
                intro hHeld
                try simp only [Act.put, List.setIfInBounds_toArray, List.set_cons_zero, List.set_cons_succ]
                refine wpAnyH_done (by kernel_rfl) ?_ _
                go_wp2_with fail
                go_roundw
                case rel => exact ⟨i + 1, .slice p2 n2 c2, qs2 ++ [d], by omega, by go_num, by rw [HD.out, HQ2.out, HN.out]; simp, OO3.out, by have := H3.out; rw [flatT_append, flatT_one]; simpa using this, BE3.out⟩
                case measure => simp [intOf]; omega
        · have HQ3 := Lib.hid (show qs2 = rinsL Us.s x s us ++ us.filter (fun d => d.s == (s : Int)) by have h := HQ2.out; rw [List.take_of_length_le (by omega)] at h; exact h)
          have HRS := Lib.hid (rinsL_succ Us.s x s us)
          clear HQ2
          obtain ⟨x0, x1, x2, x3, fX, zX⟩ := own4 OXr.out
          obtain ⟨o0, o1, o2, fO, zO⟩ := own3 OOr.out
          cases hx : (x.s == (s : Int)) with
          | false =>
            have HX := Lib.hid hx
            go_wp2_with fail
            go_roundw
            case rel => exact ⟨s + 1, row2, qs2, by omega, by go_num, by rw [HRS.out, HQ3.out, HX.out]; simp, OOr.out, HOWN.out, BE.out⟩
            case measure => simp [intOf]; omega
          | true =>
            have HX := Lib.hid hx
            have hb4 : wc.heap.size ≤ (wr.alloc (.cells #[.int .i64 x.s, .int .i64 x.o, .int .i64 x.p, .int .i64 x.m] 32)).heap.size := by simp; omega
            have OOe := Lib.hid (OOr.out.alloc (.cells #[.int .i64 x.s, .int .i64 x.o, .int .i64 x.p, .int .i64 x.m] 32))
            have HOWe := Lib.hid (HOWN.out.alloc (.cells #[.int .i64 x.s, .int .i64 x.o, .int .i64 x.p, .int .i64 x.m] 32))
            have BEe := Lib.hid (BE.out.alloc hWr (.cells #[.int .i64 x.s, .int .i64 x.o, .int .i64 x.p, .int .i64 x.m] 32))
            go_wp2_with (at_builtin; refine wpList_append_own _ rfl _ _ 22 rfl wc.heap.size 32 iU _ 4 32 (by kernel_rfl) IFU.out.1 IFU.out.2.1 IFU.out.2.2.1 IFU.out.2.2.2 rfl (by decide) row2 qs2.length (flatT usL qs2) rfl HOWe.out _ 1 1 (usL.f x) rfl rfl (newsT (L := usL) wr x 32) (usL.one _) ?qc4 ?qc5 hb4 ?_)
            case qc4 => unfold maxLen; omega
            case qc5 => omega
            intro v2 w2 hown hgrow hnil
            have hrl := HOWe.out.lt
            have BE2 := Lib.hid (BEe.out.grown hgrow hb4 (fun k hk => (hrl k hk).1))
            have OO2 := Lib.hid (own_grown OOe.out hgrow (fun k hk => by have := (hrl k hk).1; omega))
            obtain ⟨p2, n2, c2, f0⟩ := own_slc hown
            subst f0
            have H2 := Lib.hid hown
            clear hown hgrow hnil o0 o1 o2 fO zO hrl
            obtain ⟨o0, o1, o2, fO, zO⟩ := own3 OO2.out
            go_wp2_with fail
            have OO3 := Lib.hid (OO2.out.set 0 (.slice p2 n2 c2))
            have BE3 := Lib.hid (BE2.out.set 0 (.slice p2 n2 c2))
            have H3 := Lib.hid (row_set H2.out (b := bO) (by omega) 0 (.slice p2 n2 c2))
            go_roundw
            case rel => exact ⟨s + 1, .slice p2 n2 c2, qs2 ++ [x], by omega, by go_num, by rw [HRS.out, HQ3.out, HX.out]; simp, OO3.out, by have := H3.out; rw [flatT_append, flatT_one]; simpa using this, BE3.out⟩
            case measure => simp [intOf]; omega
    · have hsD2 : s = D.toNat := by omega
      have HQ2 := Lib.hid (show qs = rinsL Us.s x D.toNat us by rw [← hsD2]; exact HQ.out)
      have NU := Lib.hid (show SlU wq row (rinsL Us.s x D.toNat us) by rw [← HQ2.out]; exact slt_of_own (L := usL) HOWN.out)
      obtain ⟨pU1, nU1, cU1, f0⟩ := NU.out.slc
      subst f0
      replace NA := Lib.hid (BE.out.slt NA.out numA OOw.out)
      replace NG := Lib.hid (BE.out.slt NG.out numG OOw.out)
      obtain ⟨r0, r1, r2, fR, zR⟩ := own3 ORr.out
      obtain ⟨o0, o1, o2, fO, zO⟩ := own3 OOr.out
      go_wp2_with fail
      have ORw2 := ORr
      clear ORw
      have ORw := ORw2
      have BLw2 := BLr
      clear BLw
      have BLw := BLw2
      clear ORw2 BLw2
      clear r0 r1 r2 fR zR o0 o1 o2 fO zO
      have FU := Lib.hid (SlT.set3 NU.out numU ORw.out (.slice pU1 nU1 cU1) (.slice pG1 nG1 cG1) (.slice pA1 nA1 cA1))
      have FG := Lib.hid (SlT.set3 NG.out numG ORw.out (.slice pU1 nU1 cU1) (.slice pG1 nG1 cG1) (.slice pA1 nA1 cA1))
      have FA := Lib.hid (SlT.set3 NA.out numA ORw.out (.slice pU1 nU1 cU1) (.slice pG1 nG1 cG1) (.slice pA1 nA1 cA1))
      have BF := Lib.hid (below_set3 (x := .slice pU1 nU1 cU1) (y := .slice pG1 nG1 cG1) (z := .slice pA1 nA1 cA1) BLw.out (show w.heap.size ≤ w.heap.size + 1 + 1 + 1 by omega))
      have OF := Lib.hid (own_set3 (x := .slice pU1 nU1 cU1) (y := .slice pG1 nG1 cG1) (z := .slice pA1 nA1 cA1) ORw.out)
      generalize (((wq.setCell ⟨w.heap.size + 1 + 1 + 1, 0, none⟩ (.slice pU1 nU1 cU1)).setCell ⟨w.heap.size + 1 + 1 + 1, 1, none⟩ (.slice pG1 nG1 cG1)).setCell ⟨w.heap.size + 1 + 1 + 1, 2, none⟩ (.slice pA1 nA1 cA1)) = wf at OF FU FG FA BF ⊢
      obtain ⟨q0, q1, q2, _, _⟩ := own3 OF.out
      go_wp2_with fail
      refine bodyPost_ret (v := .tuple #[.agg #[.slice pU1 nU1 cU1, .slice pG1 nG1 cG1, .slice pA1 nA1 cA1], .int .i64 0]) (by simp [results, Try.results13, go_sem, *]) rfl ⟨_, _, _, rfl, FU.out, FG.out, FA.out, BF.out⟩

theorem raddu_lit (vu vg va : Value) (us : List Us) (gs : List Gr) (ks : List Ak) (N D : Int) (w : World) (su : SlU w vu us) (sg : SlG w vg gs) (sa : SlA w va ks) (x : Us) (u70 : us.length ≤ 70) (g70 : gs.length ≤ 70) (k70 : ks.length ≤ 70) (E : Int) (he : auE N D us gs ks x = E) : Calls Try.prog 13 #[.agg #[vu, vg, va], .agg #[.int .i64 N, .int .i64 D], .agg #[.int .i64 x.s, .int .i64 x.o, .int .i64 x.p, .int .i64 x.m]] w fun e w' => AddP w (auU us x E) (auG gs E) (adA ks x.s E) E e w' := by
  by_cases h : E = 0
  · subst h
    have := raddu_ok vu vg va us gs ks N D w su sg sa x u70 g70 k70 he
    rw [rinsU he] at this
    simpa only [auU, auG, agU, agG, adA, if_pos rfl, if_true] using this
  · have := raddu_bad vu vg va us gs ks N D w su sg sa x u70 g70 k70 E he h
    simpa only [auU, auG, agU, agG, adA, if_neg h] using this

set_option linter.unusedSimpArgs false in
set_option linter.unusedVariables false in
set_option maxRecDepth 100000 in
set_option maxHeartbeats 2000000 in
theorem raddg_bad (vu vg va : Value) (us : List Us) (gs : List Gr) (ks : List Ak) (N D : Int) (w : World) (su : SlU w vu us) (sg : SlG w vg gs) (sa : SlA w va ks) (x : Gr) (u70 : us.length ≤ 70) (g70 : gs.length ≤ 70) (k70 : ks.length ≤ 70) (E : Int) (he : agE N D us gs ks x = E) (hn : ¬ E = 0) : Calls Try.prog 15 #[.agg #[vu, vg, va], .agg #[.int .i64 N, .int .i64 D], .agg #[.int .i64 x.s, .int .i64 x.o, .int .i64 x.p, .int .i64 x.m, .int .i64 x.u]] w fun e w' => AddP w [] [] [] E e w' := by
  obtain ⟨pu, cu, e0, hlu, hcu, _⟩ := su.form us.length rfl
  subst e0
  obtain ⟨pg, cg, e0, hlg, hcg, _⟩ := sg.form gs.length rfl
  subst e0
  obtain ⟨pa, ca, e0, hla, hca, _⟩ := sa.form ks.length rfl
  subst e0
  have SU := Lib.hid su
  have SG := Lib.hid sg
  have SA := Lib.hid sa
  clear su sg sa
  have iu0 : (0 : Int) ≤ (us.length : Int) := Int.natCast_nonneg _
  have ig0 : (0 : Int) ≤ (gs.length : Int) := Int.natCast_nonneg _
  have ia0 : (0 : Int) ≤ (ks.length : Int) := Int.natCast_nonneg _
  have iu : (us.length : Int) ≤ 70 := by omega
  have ig : (gs.length : Int) ≤ 70 := by omega
  have ia : (ks.length : Int) ≤ 70 := by omega
  have HE := Lib.hid (show refE N D us gs ks (grB N D x) x.s = E from he)
  clear he
  go_enter Try.func15, Try.ntmps15
  go_wp2_with fail
  have OTw := Lib.hid (((((own_at (w := w) (n := w.heap.size) [.slice pu us.length cu, .slice pg gs.length cg, .slice pa ks.length ca] 26 (by rfl)).alloc (.cells #[.int .i64 N, .int .i64 D] 28)).alloc (.cells #[.int .i64 x.s, .int .i64 x.o, .int .i64 x.p, .int .i64 x.m, .int .i64 x.u] 34)).alloc (.cells #[.slice none 0 0, .slice none 0 0, .slice none 0 0] 26)))
  have OLw := Lib.hid ((((own_at (w := (w.alloc (.cells #[.slice pu us.length cu, .slice pg gs.length cg, .slice pa ks.length ca] 26))) (n := w.heap.size + 1) [.int .i64 N, .int .i64 D] 28 (by simp)).alloc (.cells #[.int .i64 x.s, .int .i64 x.o, .int .i64 x.p, .int .i64 x.m, .int .i64 x.u] 34)).alloc (.cells #[.slice none 0 0, .slice none 0 0, .slice none 0 0] 26)))
  have OXw := Lib.hid (((own_at (w := ((w.alloc (.cells #[.slice pu us.length cu, .slice pg gs.length cg, .slice pa ks.length ca] 26)).alloc (.cells #[.int .i64 N, .int .i64 D] 28))) (n := w.heap.size + 1 + 1) [.int .i64 x.s, .int .i64 x.o, .int .i64 x.p, .int .i64 x.m, .int .i64 x.u] 34 (by simp)).alloc (.cells #[.slice none 0 0, .slice none 0 0, .slice none 0 0] 26)))
  have ORw := Lib.hid ((own_at (w := (((w.alloc (.cells #[.slice pu us.length cu, .slice pg gs.length cg, .slice pa ks.length ca] 26)).alloc (.cells #[.int .i64 N, .int .i64 D] 28)).alloc (.cells #[.int .i64 x.s, .int .i64 x.o, .int .i64 x.p, .int .i64 x.m, .int .i64 x.u] 34))) (n := w.heap.size + 1 + 1 + 1) [.slice none 0 0, .slice none 0 0, .slice none 0 0] 26 (by simp)))
  have BLw := Lib.hid ((((((Below.refl w.heap.size w).alloc (by simp) (.cells #[.slice pu us.length cu, .slice pg gs.length cg, .slice pa ks.length ca] 26)).alloc (by simp) (.cells #[.int .i64 N, .int .i64 D] 28)).alloc (by simp; omega) (.cells #[.int .i64 x.s, .int .i64 x.o, .int .i64 x.p, .int .i64 x.m, .int .i64 x.u] 34)).alloc (by simp; omega) (.cells #[.slice none 0 0, .slice none 0 0, .slice none 0 0] 26)))
  generalize ((((w.alloc (.cells #[.slice pu us.length cu, .slice pg gs.length cg, .slice pa ks.length ca] 26)).alloc (.cells #[.int .i64 N, .int .i64 D] 28)).alloc (.cells #[.int .i64 x.s, .int .i64 x.o, .int .i64 x.p, .int .i64 x.m, .int .i64 x.u] 34)).alloc (.cells #[.slice none 0 0, .slice none 0 0, .slice none 0 0] 26)) = wa at OTw OLw OXw ORw BLw ⊢
  have oT := OTw.out
  have oL := OLw.out
  have oX := OXw.out
  have oR := ORw.out
  have bel := BLw.out
  replace SU := Lib.hid (SU.out.below bel)
  replace SG := Lib.hid (SG.out.below bel)
  replace SA := Lib.hid (SA.out.below bel)
  clear OTw OLw OXw ORw BLw
  obtain ⟨cT0, cT1, cT2, fT, zT⟩ := own3 oT
  obtain ⟨cL0, cL1, fL, zL⟩ := own2 oL
  obtain ⟨cX0, cX1, cX2, cX3, cX4, fX, zX⟩ := own5 oX
  obtain ⟨cR0, cR1, cR2, fR, zR⟩ := own3 oR
  go_wp2_with fail
  have OTk0 := Lib.hid oT.drew
  have OLk0 := Lib.hid oL.drew
  have OXk0 := Lib.hid oX.drew
  have ORk0 := Lib.hid oR.drew
  have BBk0 := Lib.hid bel.drew
  have SUk0 := Lib.hid (SU.out.below (Below.refl _ _).drew)
  have SGk0 := Lib.hid (SG.out.below (Below.refl _ _).drew)
  have SAk0 := Lib.hid (SA.out.below (Below.refl _ _).drew)
  clear oT cT0 cT1 cT2 fT zT oL cL0 cL1 fL zL oX cX0 cX1 cX2 cX3 cX4 fX zX oR cR0 cR1 cR2 fR zR
  clear bel SU SG SA
  obtain ⟨hTk00, hTk01, hTk02, _, _⟩ := own3 OTk0.out
  obtain ⟨hLk00, hLk01, _, _⟩ := own2 OLk0.out
  obtain ⟨hXk00, hXk01, hXk02, hXk03, hXk04, _, _⟩ := own5 OXk0.out
  obtain ⟨hRk00, hRk01, hRk02, _, _⟩ := own3 ORk0.out
  refine region_H 10 #[false, false, false, false, false, false, false, false, false, false] (by kernel_rfl) (by kernel_rfl) (fun w' => w'.cell? ⟨w.heap.size, 0, none⟩ = some (.slice pu us.length cu) ∧ w'.cell? ⟨w.heap.size, 1, none⟩ = some (.slice pg gs.length cg) ∧ w'.cell? ⟨w.heap.size, 2, none⟩ = some (.slice pa ks.length ca) ∧ w'.cell? ⟨w.heap.size + 1, 0, none⟩ = some (.int .i64 N) ∧ w'.cell? ⟨w.heap.size + 1, 1, none⟩ = some (.int .i64 D) ∧ w'.cell? ⟨w.heap.size + 1 + 1, 0, none⟩ = some (.int .i64 x.s) ∧ w'.cell? ⟨w.heap.size + 1 + 1, 1, none⟩ = some (.int .i64 x.o) ∧ w'.cell? ⟨w.heap.size + 1 + 1, 2, none⟩ = some (.int .i64 x.p) ∧ w'.cell? ⟨w.heap.size + 1 + 1, 3, none⟩ = some (.int .i64 x.m) ∧ w'.cell? ⟨w.heap.size + 1 + 1, 4, none⟩ = some (.int .i64 x.u)) (by kernel_rfl) ?x33s (fun hHeld => ?x33r)
  case x33s => exact ⟨hTk00, hTk01, hTk02, hLk00, hLk01, hXk00, hXk01, hXk02, hXk03, hXk04⟩
  refine wpH_take (i := 0) (some 12) (v := ?x34v) rfl (by kernel_rfl) (by kernel_rfl) (by kernel_rfl) rfl (fun _ _ _ h => h) (Or.inl ⟨by rfl, ?x34y⟩) hHeld ?x34r
  case x34y => (intro w hSw; (try dsimp only at hSw); go_simp; try with_reducible rfl)
  try simp only [Act.put, List.setIfInBounds_toArray, List.set_cons_zero, List.set_cons_succ]
  refine wpH_take (i := 1) (some 13) (v := ?x35v) rfl (by kernel_rfl) (by kernel_rfl) (by kernel_rfl) rfl (fun _ _ _ h => h) (Or.inl ⟨by rfl, ?x35y⟩) hHeld ?x35r
  case x35y => (intro w hSw; (try dsimp only at hSw); go_simp; try with_reducible rfl)
  try simp only [Act.put, List.setIfInBounds_toArray, List.set_cons_zero, List.set_cons_succ]
  refine wpH_take (i := 2) (some 14) (v := ?x36v) rfl (by kernel_rfl) (by kernel_rfl) (by kernel_rfl) rfl (fun _ _ _ h => h) (Or.inl ⟨by rfl, ?x36y⟩) hHeld ?x36r
  case x36y => (intro w hSw; (try dsimp only at hSw); go_simp; try with_reducible rfl)
  try simp only [Act.put, List.setIfInBounds_toArray, List.set_cons_zero, List.set_cons_succ]
  refine wpH_take (i := 3) (some 15) (v := ?x37v) rfl (by kernel_rfl) (by kernel_rfl) (by kernel_rfl) rfl (fun _ _ _ h => h) (Or.inl ⟨by rfl, ?x37y⟩) hHeld ?x37r
  case x37y => (intro w hSw; (try dsimp only at hSw); go_simp; try with_reducible rfl)
  try simp only [Act.put, List.setIfInBounds_toArray, List.set_cons_zero, List.set_cons_succ]
  refine wpH_take (i := 4) (some 16) (v := ?x38v) rfl (by kernel_rfl) (by kernel_rfl) (by kernel_rfl) rfl (fun _ _ _ h => h) (Or.inl ⟨by rfl, ?x38y⟩) hHeld ?x38r
  case x38y => (intro w hSw; (try dsimp only at hSw); go_simp; try with_reducible rfl)
  try simp only [Act.put, List.setIfInBounds_toArray, List.set_cons_zero, List.set_cons_succ]
  refine wpH_take (i := 5) (some 17) (v := ?x39v) rfl (by kernel_rfl) (by kernel_rfl) (by kernel_rfl) rfl (fun _ _ _ h => h) (Or.inl ⟨by rfl, ?x39y⟩) hHeld ?x39r
  case x39y => (intro w hSw; (try dsimp only at hSw); go_simp; try with_reducible rfl)
  try simp only [Act.put, List.setIfInBounds_toArray, List.set_cons_zero, List.set_cons_succ]
  refine wpH_take (i := 6) (some 18) (v := ?x40v) rfl (by kernel_rfl) (by kernel_rfl) (by kernel_rfl) rfl (fun _ _ _ h => h) (Or.inl ⟨by rfl, ?x40y⟩) hHeld ?x40r
  case x40y => (intro w hSw; (try dsimp only at hSw); go_simp; try with_reducible rfl)
  try simp only [Act.put, List.setIfInBounds_toArray, List.set_cons_zero, List.set_cons_succ]
  refine wpH_one (i := 7) (by kernel_rfl) rfl (fun K hK => ?_)
  rw [if_pos (by rfl)]
  go_simp
  refine (rgval_lit x N D (grB N D x) _ rfl).mono ?_
  rintro e wk1 ⟨rfl, hbb⟩
  have OTk1 := Lib.hid (OTk0.out.below hbb)
  have OLk1 := Lib.hid (OLk0.out.below hbb)
  have OXk1 := Lib.hid (OXk0.out.below hbb)
  have ORk1 := Lib.hid (ORk0.out.below hbb)
  have SUk1 := Lib.hid (SUk0.out.below hbb)
  have SGk1 := Lib.hid (SGk0.out.below hbb)
  have SAk1 := Lib.hid (SAk0.out.below hbb)
  have BBk1 := Lib.hid (belowTo BBk0.out hbb BBk0.out.size)
  clear hbb OTk0 OLk0 OXk0 ORk0 SUk0 SGk0 SAk0 BBk0 hTk00 hTk01 hTk02 hLk00 hLk01 hXk00 hXk01 hXk02 hXk03 hXk04 hRk00 hRk01 hRk02
  obtain ⟨hTk10, hTk11, hTk12, _, _⟩ := own3 OTk1.out
  obtain ⟨hLk10, hLk11, _, _⟩ := own2 OLk1.out
  obtain ⟨hXk10, hXk11, hXk12, hXk13, hXk14, _, _⟩ := own5 OXk1.out
  obtain ⟨hRk10, hRk11, hRk12, _, _⟩ := own3 ORk1.out
  refine hK.out _ _ (⟨hTk10, hTk11, hTk12, hLk10, hLk11, hXk10, hXk11, hXk12, hXk13, hXk14⟩) ?_
  clear hK K hHeld
  intro hHeld
  try simp only [Act.put, List.setIfInBounds_toArray, List.set_cons_zero, List.set_cons_succ]
  refine wpH_one (i := 8) (by kernel_rfl) rfl (fun K hK => ?_)
  rw [if_pos (by rfl)]
  go_simp
  refine (rrfs_lit _ _ _ us gs ks N D _ SUk1.out SGk1.out SAk1.out x.s (grB N D x) u70 g70 k70 E HE.out).mono ?_
  rintro e wk2 ⟨rfl, hbb⟩
  have OTk2 := Lib.hid (OTk1.out.below hbb)
  have OLk2 := Lib.hid (OLk1.out.below hbb)
  have OXk2 := Lib.hid (OXk1.out.below hbb)
  have ORk2 := Lib.hid (ORk1.out.below hbb)
  have SUk2 := Lib.hid (SUk1.out.below hbb)
  have SGk2 := Lib.hid (SGk1.out.below hbb)
  have SAk2 := Lib.hid (SAk1.out.below hbb)
  have BBk2 := Lib.hid (belowTo BBk1.out hbb BBk1.out.size)
  clear hbb OTk1 OLk1 OXk1 ORk1 SUk1 SGk1 SAk1 BBk1 hTk10 hTk11 hTk12 hLk10 hLk11 hXk10 hXk11 hXk12 hXk13 hXk14 hRk10 hRk11 hRk12
  obtain ⟨hTk20, hTk21, hTk22, _, _⟩ := own3 OTk2.out
  obtain ⟨hLk20, hLk21, _, _⟩ := own2 OLk2.out
  obtain ⟨hXk20, hXk21, hXk22, hXk23, hXk24, _, _⟩ := own5 OXk2.out
  obtain ⟨hRk20, hRk21, hRk22, _, _⟩ := own3 ORk2.out
  refine hK.out _ _ (⟨hTk20, hTk21, hTk22, hLk20, hLk21, hXk20, hXk21, hXk22, hXk23, hXk24⟩) ?_
  clear hK K hHeld
  intro hHeld
  try simp only [Act.put, List.setIfInBounds_toArray, List.set_cons_zero, List.set_cons_succ]
  refine wpH_take (i := 9) (some 8) (v := ?x43v) rfl (by kernel_rfl) (by kernel_rfl) (by kernel_rfl) rfl (fun _ _ _ h => h) (Or.inl ⟨by rfl, ?x43y⟩) hHeld ?x43r
  case x43y => (intro w hSw; (try dsimp only at hSw); go_simp; try with_reducible rfl)
  try simp only [Act.put, List.setIfInBounds_toArray, List.set_cons_zero, List.set_cons_succ]
  refine wpAnyH_done (by kernel_rfl) ?_ _
  have oT := OTk2.out
  have oL := OLk2.out
  have oX := OXk2.out
  have oR := ORk2.out
  have bel := BBk2.out
  have SU := SUk2
  have SG := SGk2
  have SA := SAk2
  clear OTk2 OLk2 OXk2 ORk2 BBk2 SUk2 SGk2 SAk2 hTk20 hTk21 hTk22 hLk20 hLk21 hXk20 hXk21 hXk22 hXk23 hXk24 hRk20 hRk21 hRk22
  obtain ⟨cT0, cT1, cT2, fT, zT⟩ := own3 oT
  obtain ⟨cL0, cL1, fL, zL⟩ := own2 oL
  obtain ⟨cX0, cX1, cX2, cX3, cX4, fX, zX⟩ := own5 oX
  obtain ⟨cR0, cR1, cR2, fR, zR⟩ := own3 oR
  go_wp2_with fail
  refine bodyPost_ret (v := .tuple #[.agg #[.slice none 0 0, .slice none 0 0, .slice none 0 0], .int .i64 E]) (by simp [results, Try.results15, go_sem, *]) rfl ⟨_, _, _, rfl, slt_nil0 _ _, slt_nil0 _ _, slt_nil0 _ _, ?_⟩
  exact below_set3 bel (by omega)

set_option linter.unusedSimpArgs false in
set_option linter.unusedVariables false in
set_option maxRecDepth 100000 in
set_option maxHeartbeats 6000000 in
theorem raddg_ok (vu vg va : Value) (us : List Us) (gs : List Gr) (ks : List Ak) (N D : Int) (w : World) (su : SlU w vu us) (sg : SlG w vg gs) (sa : SlA w va ks) (x : Gr) (u70 : us.length ≤ 70) (g70 : gs.length ≤ 70) (k70 : ks.length ≤ 70) (he : agE N D us gs ks x = 0) : Calls Try.prog 15 #[.agg #[vu, vg, va], .agg #[.int .i64 N, .int .i64 D], .agg #[.int .i64 x.s, .int .i64 x.o, .int .i64 x.p, .int .i64 x.m, .int .i64 x.u]] w fun e w' => AddP w (us) (rinsL Gr.s x D.toNat gs) (una x.s ks) 0 e w' := by
  have hlay := (layB_iff.1 (agE_ok he).1.lay).2
  obtain ⟨pu, cu, e0, hlu, hcu, _⟩ := su.form us.length rfl
  subst e0
  obtain ⟨pg, cg, e0, hlg, hcg, _⟩ := sg.form gs.length rfl
  subst e0
  obtain ⟨pa, ca, e0, hla, hca, _⟩ := sa.form ks.length rfl
  subst e0
  have SU := Lib.hid su
  have SG := Lib.hid sg
  have SA := Lib.hid sa
  clear su sg sa
  have iu0 : (0 : Int) ≤ (us.length : Int) := Int.natCast_nonneg _
  have ig0 : (0 : Int) ≤ (gs.length : Int) := Int.natCast_nonneg _
  have ia0 : (0 : Int) ≤ (ks.length : Int) := Int.natCast_nonneg _
  have iu : (us.length : Int) ≤ 70 := by omega
  have ig : (gs.length : Int) ≤ 70 := by omega
  have ia : (ks.length : Int) ≤ 70 := by omega
  have HE := Lib.hid (show refE N D us gs ks (grB N D x) x.s = 0 from he)
  clear he
  obtain ⟨iU, hi, hz, hs0, hb0⟩ := info_parts info_u
  have IFU := Lib.hid (And.intro hi (And.intro hz (And.intro hs0 hb0)))
  clear hi hz hs0 hb0
  obtain ⟨iG, hi, hz, hs0, hb0⟩ := info_parts info_g
  have IFG := Lib.hid (And.intro hi (And.intro hz (And.intro hs0 hb0)))
  clear hi hz hs0 hb0
  have SU0 := SU
  have SG0 := SG
  have SA0 := SA
  go_enter Try.func15, Try.ntmps15
  go_wp2_with fail
  have OTw := Lib.hid (((((own_at (w := w) (n := w.heap.size) [.slice pu us.length cu, .slice pg gs.length cg, .slice pa ks.length ca] 26 (by rfl)).alloc (.cells #[.int .i64 N, .int .i64 D] 28)).alloc (.cells #[.int .i64 x.s, .int .i64 x.o, .int .i64 x.p, .int .i64 x.m, .int .i64 x.u] 34)).alloc (.cells #[.slice none 0 0, .slice none 0 0, .slice none 0 0] 26)))
  have OLw := Lib.hid ((((own_at (w := (w.alloc (.cells #[.slice pu us.length cu, .slice pg gs.length cg, .slice pa ks.length ca] 26))) (n := w.heap.size + 1) [.int .i64 N, .int .i64 D] 28 (by simp)).alloc (.cells #[.int .i64 x.s, .int .i64 x.o, .int .i64 x.p, .int .i64 x.m, .int .i64 x.u] 34)).alloc (.cells #[.slice none 0 0, .slice none 0 0, .slice none 0 0] 26)))
  have OXw := Lib.hid (((own_at (w := ((w.alloc (.cells #[.slice pu us.length cu, .slice pg gs.length cg, .slice pa ks.length ca] 26)).alloc (.cells #[.int .i64 N, .int .i64 D] 28))) (n := w.heap.size + 1 + 1) [.int .i64 x.s, .int .i64 x.o, .int .i64 x.p, .int .i64 x.m, .int .i64 x.u] 34 (by simp)).alloc (.cells #[.slice none 0 0, .slice none 0 0, .slice none 0 0] 26)))
  have ORw := Lib.hid ((own_at (w := (((w.alloc (.cells #[.slice pu us.length cu, .slice pg gs.length cg, .slice pa ks.length ca] 26)).alloc (.cells #[.int .i64 N, .int .i64 D] 28)).alloc (.cells #[.int .i64 x.s, .int .i64 x.o, .int .i64 x.p, .int .i64 x.m, .int .i64 x.u] 34))) (n := w.heap.size + 1 + 1 + 1) [.slice none 0 0, .slice none 0 0, .slice none 0 0] 26 (by simp)))
  have BLw := Lib.hid ((((((Below.refl w.heap.size w).alloc (by simp) (.cells #[.slice pu us.length cu, .slice pg gs.length cg, .slice pa ks.length ca] 26)).alloc (by simp) (.cells #[.int .i64 N, .int .i64 D] 28)).alloc (by simp; omega) (.cells #[.int .i64 x.s, .int .i64 x.o, .int .i64 x.p, .int .i64 x.m, .int .i64 x.u] 34)).alloc (by simp; omega) (.cells #[.slice none 0 0, .slice none 0 0, .slice none 0 0] 26)))
  generalize ((((w.alloc (.cells #[.slice pu us.length cu, .slice pg gs.length cg, .slice pa ks.length ca] 26)).alloc (.cells #[.int .i64 N, .int .i64 D] 28)).alloc (.cells #[.int .i64 x.s, .int .i64 x.o, .int .i64 x.p, .int .i64 x.m, .int .i64 x.u] 34)).alloc (.cells #[.slice none 0 0, .slice none 0 0, .slice none 0 0] 26)) = wa at OTw OLw OXw ORw BLw ⊢
  have oT := OTw.out
  have oL := OLw.out
  have oX := OXw.out
  have oR := ORw.out
  have bel := BLw.out
  replace SU := Lib.hid (SU.out.below bel)
  replace SG := Lib.hid (SG.out.below bel)
  replace SA := Lib.hid (SA.out.below bel)
  clear OTw OLw OXw ORw BLw
  obtain ⟨cT0, cT1, cT2, fT, zT⟩ := own3 oT
  obtain ⟨cL0, cL1, fL, zL⟩ := own2 oL
  obtain ⟨cX0, cX1, cX2, cX3, cX4, fX, zX⟩ := own5 oX
  obtain ⟨cR0, cR1, cR2, fR, zR⟩ := own3 oR
  go_wp2_with fail
  have OTk0 := Lib.hid oT.drew
  have OLk0 := Lib.hid oL.drew
  have OXk0 := Lib.hid oX.drew
  have ORk0 := Lib.hid oR.drew
  have BBk0 := Lib.hid bel.drew
  have SUk0 := Lib.hid (SU.out.below (Below.refl _ _).drew)
  have SGk0 := Lib.hid (SG.out.below (Below.refl _ _).drew)
  have SAk0 := Lib.hid (SA.out.below (Below.refl _ _).drew)
  clear oT cT0 cT1 cT2 fT zT oL cL0 cL1 fL zL oX cX0 cX1 cX2 cX3 cX4 fX zX oR cR0 cR1 cR2 fR zR
  clear bel SU SG SA
  obtain ⟨hTk00, hTk01, hTk02, _, _⟩ := own3 OTk0.out
  obtain ⟨hLk00, hLk01, _, _⟩ := own2 OLk0.out
  obtain ⟨hXk00, hXk01, hXk02, hXk03, hXk04, _, _⟩ := own5 OXk0.out
  obtain ⟨hRk00, hRk01, hRk02, _, _⟩ := own3 ORk0.out
  refine region_H 10 #[false, false, false, false, false, false, false, false, false, false] (by kernel_rfl) (by kernel_rfl) (fun w' => w'.cell? ⟨w.heap.size, 0, none⟩ = some (.slice pu us.length cu) ∧ w'.cell? ⟨w.heap.size, 1, none⟩ = some (.slice pg gs.length cg) ∧ w'.cell? ⟨w.heap.size, 2, none⟩ = some (.slice pa ks.length ca) ∧ w'.cell? ⟨w.heap.size + 1, 0, none⟩ = some (.int .i64 N) ∧ w'.cell? ⟨w.heap.size + 1, 1, none⟩ = some (.int .i64 D) ∧ w'.cell? ⟨w.heap.size + 1 + 1, 0, none⟩ = some (.int .i64 x.s) ∧ w'.cell? ⟨w.heap.size + 1 + 1, 1, none⟩ = some (.int .i64 x.o) ∧ w'.cell? ⟨w.heap.size + 1 + 1, 2, none⟩ = some (.int .i64 x.p) ∧ w'.cell? ⟨w.heap.size + 1 + 1, 3, none⟩ = some (.int .i64 x.m) ∧ w'.cell? ⟨w.heap.size + 1 + 1, 4, none⟩ = some (.int .i64 x.u)) (by kernel_rfl) ?x44s (fun hHeld => ?x44r)
  case x44s => exact ⟨hTk00, hTk01, hTk02, hLk00, hLk01, hXk00, hXk01, hXk02, hXk03, hXk04⟩
  refine wpH_take (i := 0) (some 12) (v := ?x45v) rfl (by kernel_rfl) (by kernel_rfl) (by kernel_rfl) rfl (fun _ _ _ h => h) (Or.inl ⟨by rfl, ?x45y⟩) hHeld ?x45r
  case x45y => (intro w hSw; (try dsimp only at hSw); go_simp; try with_reducible rfl)
  try simp only [Act.put, List.setIfInBounds_toArray, List.set_cons_zero, List.set_cons_succ]
  refine wpH_take (i := 1) (some 13) (v := ?x46v) rfl (by kernel_rfl) (by kernel_rfl) (by kernel_rfl) rfl (fun _ _ _ h => h) (Or.inl ⟨by rfl, ?x46y⟩) hHeld ?x46r
  case x46y => (intro w hSw; (try dsimp only at hSw); go_simp; try with_reducible rfl)
  try simp only [Act.put, List.setIfInBounds_toArray, List.set_cons_zero, List.set_cons_succ]
  refine wpH_take (i := 2) (some 14) (v := ?x47v) rfl (by kernel_rfl) (by kernel_rfl) (by kernel_rfl) rfl (fun _ _ _ h => h) (Or.inl ⟨by rfl, ?x47y⟩) hHeld ?x47r
  case x47y => (intro w hSw; (try dsimp only at hSw); go_simp; try with_reducible rfl)
  try simp only [Act.put, List.setIfInBounds_toArray, List.set_cons_zero, List.set_cons_succ]
  refine wpH_take (i := 3) (some 15) (v := ?x48v) rfl (by kernel_rfl) (by kernel_rfl) (by kernel_rfl) rfl (fun _ _ _ h => h) (Or.inl ⟨by rfl, ?x48y⟩) hHeld ?x48r
  case x48y => (intro w hSw; (try dsimp only at hSw); go_simp; try with_reducible rfl)
  try simp only [Act.put, List.setIfInBounds_toArray, List.set_cons_zero, List.set_cons_succ]
  refine wpH_take (i := 4) (some 16) (v := ?x49v) rfl (by kernel_rfl) (by kernel_rfl) (by kernel_rfl) rfl (fun _ _ _ h => h) (Or.inl ⟨by rfl, ?x49y⟩) hHeld ?x49r
  case x49y => (intro w hSw; (try dsimp only at hSw); go_simp; try with_reducible rfl)
  try simp only [Act.put, List.setIfInBounds_toArray, List.set_cons_zero, List.set_cons_succ]
  refine wpH_take (i := 5) (some 17) (v := ?x50v) rfl (by kernel_rfl) (by kernel_rfl) (by kernel_rfl) rfl (fun _ _ _ h => h) (Or.inl ⟨by rfl, ?x50y⟩) hHeld ?x50r
  case x50y => (intro w hSw; (try dsimp only at hSw); go_simp; try with_reducible rfl)
  try simp only [Act.put, List.setIfInBounds_toArray, List.set_cons_zero, List.set_cons_succ]
  refine wpH_take (i := 6) (some 18) (v := ?x51v) rfl (by kernel_rfl) (by kernel_rfl) (by kernel_rfl) rfl (fun _ _ _ h => h) (Or.inl ⟨by rfl, ?x51y⟩) hHeld ?x51r
  case x51y => (intro w hSw; (try dsimp only at hSw); go_simp; try with_reducible rfl)
  try simp only [Act.put, List.setIfInBounds_toArray, List.set_cons_zero, List.set_cons_succ]
  refine wpH_one (i := 7) (by kernel_rfl) rfl (fun K hK => ?_)
  rw [if_pos (by rfl)]
  go_simp
  refine (rgval_lit x N D (grB N D x) _ rfl).mono ?_
  rintro e wk1 ⟨rfl, hbb⟩
  have OTk1 := Lib.hid (OTk0.out.below hbb)
  have OLk1 := Lib.hid (OLk0.out.below hbb)
  have OXk1 := Lib.hid (OXk0.out.below hbb)
  have ORk1 := Lib.hid (ORk0.out.below hbb)
  have SUk1 := Lib.hid (SUk0.out.below hbb)
  have SGk1 := Lib.hid (SGk0.out.below hbb)
  have SAk1 := Lib.hid (SAk0.out.below hbb)
  have BBk1 := Lib.hid (belowTo BBk0.out hbb BBk0.out.size)
  clear hbb OTk0 OLk0 OXk0 ORk0 SUk0 SGk0 SAk0 BBk0 hTk00 hTk01 hTk02 hLk00 hLk01 hXk00 hXk01 hXk02 hXk03 hXk04 hRk00 hRk01 hRk02
  obtain ⟨hTk10, hTk11, hTk12, _, _⟩ := own3 OTk1.out
  obtain ⟨hLk10, hLk11, _, _⟩ := own2 OLk1.out
  obtain ⟨hXk10, hXk11, hXk12, hXk13, hXk14, _, _⟩ := own5 OXk1.out
  obtain ⟨hRk10, hRk11, hRk12, _, _⟩ := own3 ORk1.out
  refine hK.out _ _ (⟨hTk10, hTk11, hTk12, hLk10, hLk11, hXk10, hXk11, hXk12, hXk13, hXk14⟩) ?_
  clear hK K hHeld
  intro hHeld
  try simp only [Act.put, List.setIfInBounds_toArray, List.set_cons_zero, List.set_cons_succ]
  refine wpH_one (i := 8) (by kernel_rfl) rfl (fun K hK => ?_)
  rw [if_pos (by rfl)]
  go_simp
  refine (rrfs_lit _ _ _ us gs ks N D _ SUk1.out SGk1.out SAk1.out x.s (grB N D x) u70 g70 k70 0 HE.out).mono ?_
  rintro e wk2 ⟨rfl, hbb⟩
  have OTk2 := Lib.hid (OTk1.out.below hbb)
  have OLk2 := Lib.hid (OLk1.out.below hbb)
  have OXk2 := Lib.hid (OXk1.out.below hbb)
  have ORk2 := Lib.hid (ORk1.out.below hbb)
  have SUk2 := Lib.hid (SUk1.out.below hbb)
  have SGk2 := Lib.hid (SGk1.out.below hbb)
  have SAk2 := Lib.hid (SAk1.out.below hbb)
  have BBk2 := Lib.hid (belowTo BBk1.out hbb BBk1.out.size)
  clear hbb OTk1 OLk1 OXk1 ORk1 SUk1 SGk1 SAk1 BBk1 hTk10 hTk11 hTk12 hLk10 hLk11 hXk10 hXk11 hXk12 hXk13 hXk14 hRk10 hRk11 hRk12
  obtain ⟨hTk20, hTk21, hTk22, _, _⟩ := own3 OTk2.out
  obtain ⟨hLk20, hLk21, _, _⟩ := own2 OLk2.out
  obtain ⟨hXk20, hXk21, hXk22, hXk23, hXk24, _, _⟩ := own5 OXk2.out
  obtain ⟨hRk20, hRk21, hRk22, _, _⟩ := own3 ORk2.out
  refine hK.out _ _ (⟨hTk20, hTk21, hTk22, hLk20, hLk21, hXk20, hXk21, hXk22, hXk23, hXk24⟩) ?_
  clear hK K hHeld
  intro hHeld
  try simp only [Act.put, List.setIfInBounds_toArray, List.set_cons_zero, List.set_cons_succ]
  refine wpH_take (i := 9) (some 8) (v := ?x54v) rfl (by kernel_rfl) (by kernel_rfl) (by kernel_rfl) rfl (fun _ _ _ h => h) (Or.inl ⟨by rfl, ?x54y⟩) hHeld ?x54r
  case x54y => (intro w hSw; (try dsimp only at hSw); go_simp; try with_reducible rfl)
  try simp only [Act.put, List.setIfInBounds_toArray, List.set_cons_zero, List.set_cons_succ]
  refine wpAnyH_done (by kernel_rfl) ?_ _
  have oT := OTk2.out
  have oL := OLk2.out
  have oX := OXk2.out
  have oR := ORk2.out
  have bel := BBk2.out
  have SU := SUk2
  have SG := SGk2
  have SA := SAk2
  clear OTk2 OLk2 OXk2 ORk2 BBk2 SUk2 SGk2 SAk2 hTk20 hTk21 hTk22 hLk20 hLk21 hXk20 hXk21 hXk22 hXk23 hXk24 hRk20 hRk21 hRk22
  obtain ⟨cT0, cT1, cT2, fT, zT⟩ := own3 oT
  obtain ⟨cL0, cL1, fL, zL⟩ := own2 oL
  obtain ⟨cX0, cX1, cX2, cX3, cX4, fX, zX⟩ := own5 oX
  obtain ⟨cR0, cR1, cR2, fR, zR⟩ := own3 oR
  go_wp2_with fail
  refine (runa_any _ ks x.s _ SA.out (by omega)).mono ?_
  rintro e wn ⟨vn, rfl, hs, hb⟩
  replace oT := oT.below hb
  replace oL := oL.below hb
  replace oX := oX.below hb
  replace oR := oR.below hb
  replace SU := Lib.hid (SU.out.below hb)
  replace SG := Lib.hid (SG.out.below hb)
  replace SA := Lib.hid (SA.out.below hb)
  replace bel := belowTo bel hb (by exact bel.size)
  clear hb
  clear cT0 cT1 cT2 fT zT cL0 cL1 fL zL cX0 cX1 cX2 cX3 cX4 fX zX cR0 cR1 cR2 fR zR
  obtain ⟨cT0, cT1, cT2, fT, zT⟩ := own3 oT
  obtain ⟨cL0, cL1, fL, zL⟩ := own2 oL
  obtain ⟨cX0, cX1, cX2, cX3, cX4, fX, zX⟩ := own5 oX
  obtain ⟨cR0, cR1, cR2, fR, zR⟩ := own3 oR
  have NA := Lib.hid hs
  clear hs
  obtain ⟨pA1, nA1, cA1, f0⟩ := NA.out.slc
  subst f0
  go_upto_region 5 with fail
  have OTw := Lib.hid (oT.alloc (.cells #[.slice none 0 0, .slice none 0 0, .slice pA1 nA1 cA1] 26))
  have OLw := Lib.hid (oL.alloc (.cells #[.slice none 0 0, .slice none 0 0, .slice pA1 nA1 cA1] 26))
  have OXw := Lib.hid (oX.alloc (.cells #[.slice none 0 0, .slice none 0 0, .slice pA1 nA1 cA1] 26))
  have ORw := Lib.hid (oR.alloc (.cells #[.slice none 0 0, .slice none 0 0, .slice pA1 nA1 cA1] 26))
  have OOw := Lib.hid (own_at (w := wn) [.slice none 0 0, .slice none 0 0, .slice pA1 nA1 cA1] 26 rfl)
  have BLw := Lib.hid (bel.alloc bel.size (.cells #[.slice none 0 0, .slice none 0 0, .slice pA1 nA1 cA1] 26))
  replace NA := Lib.hid (NA.out.below (belowNew _ (.cells #[.slice none 0 0, .slice none 0 0, .slice pA1 nA1 cA1] 26)))
  have hrr := zR
  have hbl := bel.size
  clear cT0 cT1 cT2 fT zT cL0 cL1 fL zL cX0 cX1 cX2 cX3 cX4 fX zX cR0 cR1 cR2 fR zR oT oL oX oR bel SU SG SA
  have hsz : wn.heap.size < (wn.alloc (.cells #[.slice none 0 0, .slice none 0 0, .slice pA1 nA1 cA1] 26)).heap.size := by simp
  generalize wn.alloc (.cells #[.slice none 0 0, .slice none 0 0, .slice pA1 nA1 cA1] 26) = wb at OTw OLw OXw ORw OOw BLw NA hsz ⊢
  obtain ⟨bO, hbO⟩ : ∃ bO, wn.heap.size = bO := ⟨_, rfl⟩
  rw [hbO] at OOw hsz hrr hbl
  try rw [hbO]
  clear hbO
  obtain ⟨t0, t1, t2, fT, zT⟩ := own3 OTw.out
  obtain ⟨o0, o1, o2, fO, zO⟩ := own3 OOw.out
  have hz0 : wb.heap.size ≤ wb.heap.size := Nat.le_refl _
  have SC := Lib.hid (SU0.out.below BLw.out)
  go_wp2_with (at_builtin; refine copy_app (L := usL) rfl _ _ 22 rfl wb.heap.size 32 iU _ 32 (by kernel_rfl) IFU.out.1 IFU.out.2.1 IFU.out.2.2.1 IFU.out.2.2.2 rfl (by decide) _ us rfl rfl SC.out (by omega) hz0 ?_)
  intro v2 w2 hown hgrow
  obtain ⟨pU1, nU1, cU1, f0⟩ := own_slc hown
  subst f0
  have BE := Lib.hid ((Belo.refl wb.heap.size bO wb).grown hgrow hz0 (fun k hk => by cases hk))
  have OO2 := Lib.hid (own_grown OOw.out hgrow (fun k hk => by cases hk))
  have H2 := Lib.hid hown
  clear hown hgrow t0 t1 t2 fT zT o0 o1 o2 fO zO SC hz0
  obtain ⟨o0, o1, o2, fO, zO⟩ := own3 OO2.out
  have OTm := Lib.hid (BE.out.own OTw.out (by omega) (by omega))
  obtain ⟨t0, t1, t2, fT, zT⟩ := own3 OTm.out
  go_upto_region 6 with fail
  have OO3 := Lib.hid (OO2.out.set 0 (.slice pU1 nU1 cU1))
  have BE3 := Lib.hid (BE.out.set 0 (.slice pU1 nU1 cU1))
  have H3 := Lib.hid (row_set H2.out (b := bO) (by omega) 0 (.slice pU1 nU1 cU1))
  clear OO2 BE H2 OTm t0 t1 t2 fT zT o0 o1 o2 fO zO
  generalize w2.setCell ⟨bO, 0, none⟩ (.slice pU1 nU1 cU1) = wc at OO3 BE3 H3 ⊢
  have hws := BE3.out.size
  have NU := Lib.hid (show SlU wc (.slice pU1 nU1 cU1) us from slt_of_own (L := usL) H3.out)
  replace NA := Lib.hid (BE3.out.slt NA.out numA OOw.out)
  replace OTw := Lib.hid (BE3.out.own OTw.out (by omega) (by omega))
  replace OLw := Lib.hid (BE3.out.own OLw.out (by omega) (by omega))
  replace OXw := Lib.hid (BE3.out.own OXw.out (by omega) (by omega))
  replace ORw := Lib.hid (BE3.out.own ORw.out (by omega) (by omega))
  replace BLw := Lib.hid (BLw.out.trans (BE3.out.below (show w.heap.size ≤ bO by omega) (show w.heap.size ≤ wb.heap.size by omega)))
  replace OOw := OO3
  replace hsz : bO < wc.heap.size := by omega
  clear OO3 BE3 H3 hws
  obtain ⟨t0, t1, t2, fT, zT⟩ := own3 OTw.out
  obtain ⟨y0, y1, fL, zL⟩ := own2 OLw.out
  go_wp2_with fail
  go_loopw [10] (fun ii wz => ∃ (s : Nat) (row : Value) (qs : List Gr), (s : Int) ≤ D ∧ ii = .int .i64 s ∧ qs = rinsL Gr.s x s gs ∧ Own wz bO [.slice pU1 nU1 cU1, row, .slice pA1 nA1 cA1] 26 ∧ wz.ownsRow wc.heap.size 34 5 row qs.length (flatT grL qs) ∧ Belo wc.heap.size bO wc wz) (fun j _ => D.toNat - (intOf j).toNat)
  case atStart => exact ⟨0, _, [], by have := hlay.1; omega, rfl, rfl, OOw.out, World.ownsRow_nil _ _ _ _, Belo.refl _ _ _⟩
  case round =>
    rename World => wq
    clear t0 t1 t2 fT zT y0 y1 fL zL
    obtain ⟨s, row, qs, hs, rfl, hq, hoo, hown, hbe⟩ := hrel
    have hl2 := hlay.2
    have hql : qs.length ≤ 5000 := by rw [hq]; exact rins_le Gr.s x (by omega) (by omega)
    have HQ := Lib.hid hq
    have OOr := Lib.hid hoo
    have HOWN := Lib.hid hown
    have BE := Lib.hid hbe
    clear hq hoo hown hbe
    have s0 : (0 : Int) ≤ (s : Int) := Int.natCast_nonneg _
    have hWr := BE.out.size
    have OTr := Lib.hid (BE.out.own OTw.out (by omega) (by omega))
    have OLr := Lib.hid (BE.out.own OLw.out (by omega) (by omega))
    have OXr := Lib.hid (BE.out.own OXw.out (by omega) (by omega))
    have ORr := Lib.hid (BE.out.own ORw.out (by omega) (by omega))
    have BLr := Lib.hid (BLw.out.trans (BE.out.below (show w.heap.size ≤ bO by omega) (show w.heap.size ≤ wc.heap.size by omega)))
    have hwr := BLr.out.size
    obtain ⟨t0, t1, t2, fT, zT⟩ := own3 OTr.out
    obtain ⟨y0, y1, fL, zL⟩ := own2 OLr.out
    by_cases hsD : (s : Int) < D
    · go_wp2_with fail
      clear t0 t1 t2 fT zT y0 y1 fL zL
      go_loopw [11] (fun ii wz => ∃ (i : Nat) (row : Value) (qs : List Gr), i ≤ gs.length ∧ ii = .int .i64 i ∧ qs = rinsL Gr.s x s gs ++ (gs.take i).filter (fun d => d.s == (s : Int)) ∧ Own wz bO [.slice pU1 nU1 cU1, row, .slice pA1 nA1 cA1] 26 ∧ wz.ownsRow wc.heap.size 34 5 row qs.length (flatT grL qs) ∧ Belo wc.heap.size bO wc wz) (fun i _ => gs.length - (intOf i).toNat)
      case atStart => exact ⟨0, row, qs, by omega, rfl, by simpa using HQ.out, OOr.out, HOWN.out, BE.out⟩
      case round =>
        rename World => wr
        obtain ⟨i, row2, qs2, hi, rfl, hq, hoo, hown, hbe⟩ := hrel
        have hqm : qs2.length ≤ 6000 := by rw [hq, List.length_append]; have := filt_le (fun d => d.s == (s : Int)) gs i; have := rins_le Gr.s x (l := gs) (s := s) (by omega) (by omega); omega
        have HQ2 := Lib.hid hq
        clear OOr HOWN BE OTr OLr OXr ORr BLr hwr hWr
        have OOr := Lib.hid hoo
        have HOWN := Lib.hid hown
        have BE := Lib.hid hbe
        clear hq hoo hown hbe
        have j0 : (0 : Int) ≤ (i : Int) := Int.natCast_nonneg _
        have hWr := BE.out.size
        have OTr := Lib.hid (BE.out.own OTw.out (by omega) (by omega))
        have OLr := Lib.hid (BE.out.own OLw.out (by omega) (by omega))
        have OXr := Lib.hid (BE.out.own OXw.out (by omega) (by omega))
        have ORr := Lib.hid (BE.out.own ORw.out (by omega) (by omega))
        have BLr := Lib.hid (BLw.out.trans (BE.out.below (show w.heap.size ≤ bO by omega) (show w.heap.size ≤ wc.heap.size by omega)))
        have hwr := BLr.out.size
        obtain ⟨t0, t1, t2, fT, zT⟩ := own3 OTr.out
        by_cases hlt : i < gs.length
        · obtain ⟨d, b, off, hd, rfl, _, hbl, d0, d1, d2, d3, d4⟩ := SG0.out.atG BLr.out hlt
          have j1 : (i : Int) < (gs.length : Int) := by omega
          have HD := Lib.hid (take_filt (p := (fun d => d.s == (s : Int))) hd)
          clear hd
          cases hn : (d.s == (s : Int)) with
          | false =>
            have HN := Lib.hid hn
            go_wp2_with fail
            go_roundw
            case rel => exact ⟨i + 1, row2, qs2, by omega, by go_num, by rw [HD.out, HQ2.out, HN.out]; simp, OOr.out, HOWN.out, BE.out⟩
            case measure => simp [intOf]; omega
          | true =>
            have HN := Lib.hid hn
            have OTd := OTr
            have OOd := OOr
            have HOWd := HOWN
            have BEd := BE
            have BWd := Lib.hid (Below.refl w.heap.size wr)
            have hWd : wc.heap.size ≤ wr.heap.size := hWr
            have hwd : w.heap.size ≤ wr.heap.size := hwr
            go_wp2_with fail
            obtain ⟨o0, o1, o2, fO, zO⟩ := own3 OOd.out.drew
            refine region_H 11 #[false, false, false, false, false, false, false, false, false, false, false] (by kernel_rfl) (by kernel_rfl) (fun w' => w'.cell? ⟨w.heap.size, 1, none⟩ = some (.slice (some ⟨b, off, none⟩) gs.length cg) ∧ w'.cell? ⟨b, off + i * 5, none⟩ = some (.int .i64 d.s) ∧ w'.cell? ⟨b, off + i * 5 + 1, none⟩ = some (.int .i64 d.o) ∧ w'.cell? ⟨b, off + i * 5 + 2, none⟩ = some (.int .i64 d.p) ∧ w'.cell? ⟨b, off + i * 5 + 3, none⟩ = some (.int .i64 d.m) ∧ w'.cell? ⟨b, off + i * 5 + 4, none⟩ = some (.int .i64 d.u)) (by kernel_rfl) ?x55s (fun hHeld => ?x55r)
            case x55s => exact ⟨OTd.out.drew.cell (i := 1) rfl, (BWd.out.drew.cell (p := ⟨b, off + i * 5, none⟩) hbl).trans d0, (BWd.out.drew.cell (p := ⟨b, off + i * 5 + 1, none⟩) hbl).trans d1, (BWd.out.drew.cell (p := ⟨b, off + i * 5 + 2, none⟩) hbl).trans d2, (BWd.out.drew.cell (p := ⟨b, off + i * 5 + 3, none⟩) hbl).trans d3, (BWd.out.drew.cell (p := ⟨b, off + i * 5 + 4, none⟩) hbl).trans d4⟩
            refine wpH_take (i := 0) (some 60) (v := ?x56v) rfl (by kernel_rfl) (by kernel_rfl) (by kernel_rfl) rfl (fun _ _ _ h => h) (Or.inl ⟨by rfl, ?x56y⟩) hHeld ?x56r
            case x56y => (intro w hSw; (try dsimp only at hSw); go_simp; try with_reducible rfl)
            try simp only [Act.put, List.setIfInBounds_toArray, List.set_cons_zero, List.set_cons_succ]
            refine wpH_take (i := 2) (some 62) (v := ?x57v) rfl (by kernel_rfl) (by kernel_rfl) (by kernel_rfl) rfl (fun _ _ _ h => h) (Or.inl ⟨by rfl, ?x57y⟩) hHeld ?x57r
            case x57y => (intro w hSw; (try dsimp only at hSw); go_simp; try with_reducible rfl)
            try simp only [Act.put, List.setIfInBounds_toArray, List.set_cons_zero, List.set_cons_succ]
            refine wpH_take (i := 3) (some 63) (v := ?x58v) rfl (by kernel_rfl) (by kernel_rfl) (by kernel_rfl) rfl (fun _ _ _ h => h) (Or.inl ⟨by rfl, ?x58y⟩) hHeld ?x58r
            case x58y => (intro w hSw; (try dsimp only at hSw); go_simp; try with_reducible rfl)
            try simp only [Act.put, List.setIfInBounds_toArray, List.set_cons_zero, List.set_cons_succ]
            refine wpH_take (i := 4) (some 64) (v := ?x59v) rfl (by kernel_rfl) (by kernel_rfl) (by kernel_rfl) rfl (fun _ _ _ h => h) (Or.inl ⟨by rfl, ?x59y⟩) hHeld ?x59r
            case x59y => (intro w hSw; (try dsimp only at hSw); go_simp; try with_reducible rfl)
            try simp only [Act.put, List.setIfInBounds_toArray, List.set_cons_zero, List.set_cons_succ]
            refine wpH_take (i := 5) (some 65) (v := ?x60v) rfl (by kernel_rfl) (by kernel_rfl) (by kernel_rfl) rfl (fun _ _ _ h => h) (Or.inl ⟨by rfl, ?x60y⟩) hHeld ?x60r
            case x60y => (intro w hSw; (try dsimp only at hSw); go_simp; try with_reducible rfl)
            try simp only [Act.put, List.setIfInBounds_toArray, List.set_cons_zero, List.set_cons_succ]
            refine wpH_take (i := 6) (some 66) (v := ?x61v) rfl (by kernel_rfl) (by kernel_rfl) (by kernel_rfl) rfl (fun _ _ _ h => h) (Or.inl ⟨by rfl, ?x61y⟩) hHeld ?x61r
            case x61y => (intro w hSw; (try dsimp only at hSw); go_simp; try with_reducible rfl)
            try simp only [Act.put, List.setIfInBounds_toArray, List.set_cons_zero, List.set_cons_succ]
            refine wpAnyH_ready (rs := [1, 7]) (by kernel_rfl) (by simp) (AllReadyH.cons rfl (fun K hK => ?x62a) (AllReadyH.cons rfl (fun K hK => ?x62b) AllReadyH.nil))
            case x62a =>
              rw [if_pos (by rfl)]
              go_simp
              refine hK.out _ _ (⟨OTd.out.drew.cell (i := 1) rfl, (BWd.out.drew.cell (p := ⟨b, off + i * 5, none⟩) hbl).trans d0, (BWd.out.drew.cell (p := ⟨b, off + i * 5 + 1, none⟩) hbl).trans d1, (BWd.out.drew.cell (p := ⟨b, off + i * 5 + 2, none⟩) hbl).trans d2, (BWd.out.drew.cell (p := ⟨b, off + i * 5 + 3, none⟩) hbl).trans d3, (BWd.out.drew.cell (p := ⟨b, off + i * 5 + 4, none⟩) hbl).trans d4⟩) ?_
              clear hK K hHeld
              intro hHeld
              try simp only [Act.put, List.setIfInBounds_toArray, List.set_cons_zero, List.set_cons_succ]
              refine wpH_one (i := 7) (by kernel_rfl) rfl (fun K hK => ?_)
              rw [if_pos (by rfl)]
              go_simp
              have OTe := Lib.hid (show Own (wr.alloc (.cells #[.int .i64 d.s, .int .i64 d.o, .int .i64 d.p, .int .i64 d.m, .int .i64 d.u] 34)).drew w.heap.size [.slice pu us.length cu, .slice (some ⟨b, off, none⟩) gs.length cg, .slice pa ks.length ca] 26 from (OTd.out.alloc _).drew)
              have OOe := Lib.hid (show Own (wr.alloc (.cells #[.int .i64 d.s, .int .i64 d.o, .int .i64 d.p, .int .i64 d.m, .int .i64 d.u] 34)).drew bO [.slice pU1 nU1 cU1, row2, .slice pA1 nA1 cA1] 26 from (OOd.out.alloc _).drew)
              have HOWe := Lib.hid (show World.ownsRow (wr.alloc (.cells #[.int .i64 d.s, .int .i64 d.o, .int .i64 d.p, .int .i64 d.m, .int .i64 d.u] 34)).drew _ _ _ _ _ _ from (HOWd.out.alloc (.cells #[.int .i64 d.s, .int .i64 d.o, .int .i64 d.p, .int .i64 d.m, .int .i64 d.u] 34)).drew)
              have BEe := Lib.hid (show Belo _ _ _ (wr.alloc (.cells #[.int .i64 d.s, .int .i64 d.o, .int .i64 d.p, .int .i64 d.m, .int .i64 d.u] 34)).drew from (BEd.out.alloc hWd (.cells #[.int .i64 d.s, .int .i64 d.o, .int .i64 d.p, .int .i64 d.m, .int .i64 d.u] 34)).drew)
              have BWe := Lib.hid (show Below w.heap.size wr (wr.alloc (.cells #[.int .i64 d.s, .int .i64 d.o, .int .i64 d.p, .int .i64 d.m, .int .i64 d.u] 34)).drew from (BWd.out.alloc hwd (.cells #[.int .i64 d.s, .int .i64 d.o, .int .i64 d.p, .int .i64 d.m, .int .i64 d.u] 34)).drew)
              have NEWS := Lib.hid (show ∀ j u, (grL.f d)[j]? = some u → ((wr.alloc (.cells #[.int .i64 d.s, .int .i64 d.o, .int .i64 d.p, .int .i64 d.m, .int .i64 d.u] 34)).drew).cell? ((⟨wr.heap.size, 0, none⟩ : Addr).add j) = some u from newsT (L := grL) wr d 34)
              have hWe : wc.heap.size ≤ ((wr.alloc (.cells #[.int .i64 d.s, .int .i64 d.o, .int .i64 d.p, .int .i64 d.m, .int .i64 d.u] 34)).drew).heap.size := by simp; omega
              generalize (wr.alloc (.cells #[.int .i64 d.s, .int .i64 d.o, .int .i64 d.p, .int .i64 d.m, .int .i64 d.u] 34)).drew = we at OTe OOe HOWe BEe BWe NEWS hWe ⊢
              clear o0 o1 o2 fO zO
              obtain ⟨o0, o1, o2, fO, zO⟩ := own3 OOe.out
              refine hK.out _ _ (⟨OTe.out.cell (i := 1) rfl, (BWe.out.cell (p := ⟨b, off + i * 5, none⟩) hbl).trans d0, (BWe.out.cell (p := ⟨b, off + i * 5 + 1, none⟩) hbl).trans d1, (BWe.out.cell (p := ⟨b, off + i * 5 + 2, none⟩) hbl).trans d2, (BWe.out.cell (p := ⟨b, off + i * 5 + 3, none⟩) hbl).trans d3, (BWe.out.cell (p := ⟨b, off + i * 5 + 4, none⟩) hbl).trans d4⟩) ?_
              clear hK K hHeld
              intro hHeld
              try simp only [Act.put, List.setIfInBounds_toArray, List.set_cons_zero, List.set_cons_succ]
              refine wpH_one (i := 8) (by kernel_rfl) rfl (fun K hK => ?_)
              rw [if_pos (by rfl)]
              refine wp_append_own _ _ _ 23 rfl wc.heap.size 34 iG _ 5 40 (by kernel_rfl) IFG.out.1 IFG.out.2.1 IFG.out.2.2.1 IFG.out.2.2.2 rfl (by decide) row2 qs2.length (flatT grL qs2) rfl HOWe.out _ 1 1 (grL.f d) rfl rfl NEWS.out (grL.one _) ?qc4 ?qc5 hWe ?qc7
              case qc4 => unfold maxLen; omega
              case qc5 => omega
              case qc7 =>
                intro v2 w2 hown hgrow hnil
                have hrl := HOWe.out.lt
                have BE2 := Lib.hid (BEe.out.grown hgrow hWe (fun k hk => (hrl k hk).1))
                have OO2 := Lib.hid (own_grown OOe.out hgrow (fun k hk => by have := (hrl k hk).1; omega))
                have OT2 := Lib.hid (own_grown OTe.out hgrow (fun k hk => by have := (hrl k hk).1; omega))
                have BW2 := Lib.hid (BWe.out.grown hgrow (by have := BWe.out.size; omega) (fun k hk => by have := (hrl k hk).1; omega))
                obtain ⟨p2, n2, c2, f0⟩ := own_slc hown
                subst f0
                have H2 := Lib.hid hown
                clear hown hgrow hnil o0 o1 o2 fO zO hrl
                obtain ⟨o0, o1, o2, fO, zO⟩ := own3 OO2.out
                refine hK.out _ _ (⟨OT2.out.cell (i := 1) rfl, (BW2.out.cell (p := ⟨b, off + i * 5, none⟩) hbl).trans d0, (BW2.out.cell (p := ⟨b, off + i * 5 + 1, none⟩) hbl).trans d1, (BW2.out.cell (p := ⟨b, off + i * 5 + 2, none⟩) hbl).trans d2, (BW2.out.cell (p := ⟨b, off + i * 5 + 3, none⟩) hbl).trans d3, (BW2.out.cell (p := ⟨b, off + i * 5 + 4, none⟩) hbl).trans d4⟩) ?_
                clear hK K hHeld
                intro hHeld
                try simp only [Act.put, List.setIfInBounds_toArray, List.set_cons_zero, List.set_cons_succ]
                refine wpH_take (i := 9) (some 69) (v := ?x63v) rfl (by kernel_rfl) (by kernel_rfl) (by kernel_rfl) rfl (fun _ _ _ h => h) (Or.inl ⟨by rfl, ?x63y⟩) hHeld ?x63r
                case x63y => (intro w hSw; (try dsimp only at hSw); go_simp; try with_reducible rfl)
                try simp only [Act.put, List.setIfInBounds_toArray, List.set_cons_zero, List.set_cons_succ]
                refine wpH_one (i := 10) (by kernel_rfl) rfl (fun K hK => ?_)
                rw [if_pos (by rfl)]
                go_simp
                have OO3 := Lib.hid (OO2.out.set 1 (.slice p2 n2 c2))
                have BE3 := Lib.hid (BE2.out.set 1 (.slice p2 n2 c2))
                have H3 := Lib.hid (row_set H2.out (b := bO) (by omega) 1 (.slice p2 n2 c2))
                have OT3 := Lib.hid (OT2.out.other (a := ⟨bO, 1, none⟩) (by first | (simp; done) | (simp; omega)) (.slice p2 n2 c2))
                have BW3 := Lib.hid (BW2.out.setCell (p := ⟨bO, 1, none⟩) (by first | (simp; done) | (simp; omega)) (.slice p2 n2 c2))
                refine hK.out _ _ (⟨OT3.out.cell (i := 1) rfl, (BW3.out.cell (p := ⟨b, off + i * 5, none⟩) hbl).trans d0, (BW3.out.cell (p := ⟨b, off + i * 5 + 1, none⟩) hbl).trans d1, (BW3.out.cell (p := ⟨b, off + i * 5 + 2, none⟩) hbl).trans d2, (BW3.out.cell (p := ⟨b, off + i * 5 + 3, none⟩) hbl).trans d3, (BW3.out.cell (p := ⟨b, off + i * 5 + 4, none⟩) hbl).trans d4⟩) ?_
                clear hK K hHeld
                intro hHeld
                try simp only [Act.put, List.setIfInBounds_toArray, List.set_cons_zero, List.set_cons_succ]
                refine wpAnyH_done (by kernel_rfl) ?_ _
                go_wp2_with fail
                go_roundw
                case rel => exact ⟨i + 1, .slice p2 n2 c2, qs2 ++ [d], by omega, by go_num, by rw [HD.out, HQ2.out, HN.out]; simp, OO3.out, by have := H3.out; rw [flatT_append, flatT_one]; simpa using this, BE3.out⟩
                case measure => simp [intOf]; omega
            case x62b =>
              rw [if_pos (by rfl)]
              go_simp
              have OTe := Lib.hid (show Own (wr.alloc (.cells #[.int .i64 d.s, .int .i64 d.o, .int .i64 d.p, .int .i64 d.m, .int .i64 d.u] 34)).drew w.heap.size [.slice pu us.length cu, .slice (some ⟨b, off, none⟩) gs.length cg, .slice pa ks.length ca] 26 from (OTd.out.alloc _).drew)
              have OOe := Lib.hid (show Own (wr.alloc (.cells #[.int .i64 d.s, .int .i64 d.o, .int .i64 d.p, .int .i64 d.m, .int .i64 d.u] 34)).drew bO [.slice pU1 nU1 cU1, row2, .slice pA1 nA1 cA1] 26 from (OOd.out.alloc _).drew)
              have HOWe := Lib.hid (show World.ownsRow (wr.alloc (.cells #[.int .i64 d.s, .int .i64 d.o, .int .i64 d.p, .int .i64 d.m, .int .i64 d.u] 34)).drew _ _ _ _ _ _ from (HOWd.out.alloc (.cells #[.int .i64 d.s, .int .i64 d.o, .int .i64 d.p, .int .i64 d.m, .int .i64 d.u] 34)).drew)
              have BEe := Lib.hid (show Belo _ _ _ (wr.alloc (.cells #[.int .i64 d.s, .int .i64 d.o, .int .i64 d.p, .int .i64 d.m, .int .i64 d.u] 34)).drew from (BEd.out.alloc hWd (.cells #[.int .i64 d.s, .int .i64 d.o, .int .i64 d.p, .int .i64 d.m, .int .i64 d.u] 34)).drew)
              have BWe := Lib.hid (show Below w.heap.size wr (wr.alloc (.cells #[.int .i64 d.s, .int .i64 d.o, .int .i64 d.p, .int .i64 d.m, .int .i64 d.u] 34)).drew from (BWd.out.alloc hwd (.cells #[.int .i64 d.s, .int .i64 d.o, .int .i64 d.p, .int .i64 d.m, .int .i64 d.u] 34)).drew)
              have NEWS := Lib.hid (show ∀ j u, (grL.f d)[j]? = some u → ((wr.alloc (.cells #[.int .i64 d.s, .int .i64 d.o, .int .i64 d.p, .int .i64 d.m, .int .i64 d.u] 34)).drew).cell? ((⟨wr.heap.size, 0, none⟩ : Addr).add j) = some u from newsT (L := grL) wr d 34)
              have hWe : wc.heap.size ≤ ((wr.alloc (.cells #[.int .i64 d.s, .int .i64 d.o, .int .i64 d.p, .int .i64 d.m, .int .i64 d.u] 34)).drew).heap.size := by simp; omega
              generalize (wr.alloc (.cells #[.int .i64 d.s, .int .i64 d.o, .int .i64 d.p, .int .i64 d.m, .int .i64 d.u] 34)).drew = we at OTe OOe HOWe BEe BWe NEWS hWe ⊢
              clear o0 o1 o2 fO zO
              obtain ⟨o0, o1, o2, fO, zO⟩ := own3 OOe.out
              refine hK.out _ _ (⟨OTe.out.cell (i := 1) rfl, (BWe.out.cell (p := ⟨b, off + i * 5, none⟩) hbl).trans d0, (BWe.out.cell (p := ⟨b, off + i * 5 + 1, none⟩) hbl).trans d1, (BWe.out.cell (p := ⟨b, off + i * 5 + 2, none⟩) hbl).trans d2, (BWe.out.cell (p := ⟨b, off + i * 5 + 3, none⟩) hbl).trans d3, (BWe.out.cell (p := ⟨b, off + i * 5 + 4, none⟩) hbl).trans d4⟩) ?_
              clear hK K hHeld
              intro hHeld
              try simp only [Act.put, List.setIfInBounds_toArray, List.set_cons_zero, List.set_cons_succ]
              refine wpH_one (i := 1) (by kernel_rfl) rfl (fun K hK => ?_)
              rw [if_pos (by rfl)]
              go_simp
              refine hK.out _ _ (⟨OTe.out.cell (i := 1) rfl, (BWe.out.cell (p := ⟨b, off + i * 5, none⟩) hbl).trans d0, (BWe.out.cell (p := ⟨b, off + i * 5 + 1, none⟩) hbl).trans d1, (BWe.out.cell (p := ⟨b, off + i * 5 + 2, none⟩) hbl).trans d2, (BWe.out.cell (p := ⟨b, off + i * 5 + 3, none⟩) hbl).trans d3, (BWe.out.cell (p := ⟨b, off + i * 5 + 4, none⟩) hbl).trans d4⟩) ?_
              clear hK K hHeld
              intro hHeld
              try simp only [Act.put, List.setIfInBounds_toArray, List.set_cons_zero, List.set_cons_succ]
              refine wpH_one (i := 8) (by kernel_rfl) rfl (fun K hK => ?_)
              rw [if_pos (by rfl)]
              refine wp_append_own _ _ _ 23 rfl wc.heap.size 34 iG _ 5 40 (by kernel_rfl) IFG.out.1 IFG.out.2.1 IFG.out.2.2.1 IFG.out.2.2.2 rfl (by decide) row2 qs2.length (flatT grL qs2) rfl HOWe.out _ 1 1 (grL.f d) rfl rfl NEWS.out (grL.one _) ?qc4 ?qc5 hWe ?qc7
              case qc4 => unfold maxLen; omega
              case qc5 => omega
              case qc7 =>
                intro v2 w2 hown hgrow hnil
                have hrl := HOWe.out.lt
                have BE2 := Lib.hid (BEe.out.grown hgrow hWe (fun k hk => (hrl k hk).1))
                have OO2 := Lib.hid (own_grown OOe.out hgrow (fun k hk => by have := (hrl k hk).1; omega))
                have OT2 := Lib.hid (own_grown OTe.out hgrow (fun k hk => by have := (hrl k hk).1; omega))
                have BW2 := Lib.hid (BWe.out.grown hgrow (by have := BWe.out.size; omega) (fun k hk => by have := (hrl k hk).1; omega))
                obtain ⟨p2, n2, c2, f0⟩ := own_slc hown
                subst f0
                have H2 := Lib.hid hown
                clear hown hgrow hnil o0 o1 o2 fO zO hrl
                obtain ⟨o0, o1, o2, fO, zO⟩ := own3 OO2.out
                refine hK.out _ _ (⟨OT2.out.cell (i := 1) rfl, (BW2.out.cell (p := ⟨b, off + i * 5, none⟩) hbl).trans d0, (BW2.out.cell (p := ⟨b, off + i * 5 + 1, none⟩) hbl).trans d1, (BW2.out.cell (p := ⟨b, off + i * 5 + 2, none⟩) hbl).trans d2, (BW2.out.cell (p := ⟨b, off + i * 5 + 3, none⟩) hbl).trans d3, (BW2.out.cell (p := ⟨b, off + i * 5 + 4, none⟩) hbl).trans d4⟩) ?_
                clear hK K hHeld
                intro hHeld
                try simp only [Act.put, List.setIfInBounds_toArray, List.set_cons_zero, List.set_cons_succ]
                refine wpH_take (i := 9) (some 69) (v := ?x64v) rfl (by kernel_rfl) (by kernel_rfl) (by kernel_rfl) rfl (fun _ _ _ h => h) (Or.inl ⟨by rfl, ?x64y⟩) hHeld ?x64r
                case x64y => (intro w hSw; (try dsimp only at hSw); go_simp; try with_reducible rfl)
                try simp only [Act.put, List.setIfInBounds_toArray, List.set_cons_zero, List.set_cons_succ]
                refine wpH_one (i := 10) (by kernel_rfl) rfl (fun K hK => ?_)
                rw [if_pos (by rfl)]
                go_simp
                have OO3 := Lib.hid (OO2.out.set 1 (.slice p2 n2 c2))
                have BE3 := Lib.hid (BE2.out.set 1 (.slice p2 n2 c2))
                have H3 := Lib.hid (row_set H2.out (b := bO) (by omega) 1 (.slice p2 n2 c2))
                have OT3 := Lib.hid (OT2.out.other (a := ⟨bO, 1, none⟩) (by first | (simp; done) | (simp; omega)) (.slice p2 n2 c2))
                have BW3 := Lib.hid (BW2.out.setCell (p := ⟨bO, 1, none⟩) (by first | (simp; done) | (simp; omega)) (.slice p2 n2 c2))
                refine hK.out _ _ (⟨OT3.out.cell (i := 1) rfl, (BW3.out.cell (p := ⟨b, off + i * 5, none⟩) hbl).trans d0, (BW3.out.cell (p := ⟨b, off + i * 5 + 1, none⟩) hbl).trans d1, (BW3.out.cell (p := ⟨b, off + i * 5 + 2, none⟩) hbl).trans d2, (BW3.out.cell (p := ⟨b, off + i * 5 + 3, none⟩) hbl).trans d3, (BW3.out.cell (p := ⟨b, off + i * 5 + 4, none⟩) hbl).trans d4⟩) ?_
                clear hK K hHeld
                intro hHeld
                try simp only [Act.put, List.setIfInBounds_toArray, List.set_cons_zero, List.set_cons_succ]
                refine wpAnyH_done (by kernel_rfl) ?_ _
                go_wp2_with fail
                go_roundw
                case rel => exact ⟨i + 1, .slice p2 n2 c2, qs2 ++ [d], by omega, by go_num, by rw [HD.out, HQ2.out, HN.out]; simp, OO3.out, by have := H3.out; rw [flatT_append, flatT_one]; simpa using this, BE3.out⟩
                case measure => simp [intOf]; omega
        · have HQ3 := Lib.hid (show qs2 = rinsL Gr.s x s gs ++ gs.filter (fun d => d.s == (s : Int)) by have h := HQ2.out; rw [List.take_of_length_le (by omega)] at h; exact h)
          have HRS := Lib.hid (rinsL_succ Gr.s x s gs)
          clear HQ2
          obtain ⟨x0, x1, x2, x3, x4, fX, zX⟩ := own5 OXr.out
          obtain ⟨o0, o1, o2, fO, zO⟩ := own3 OOr.out
          cases hx : (x.s == (s : Int)) with
          | false =>
            have HX := Lib.hid hx
            go_wp2_with fail
            go_roundw
            case rel => exact ⟨s + 1, row2, qs2, by omega, by go_num, by rw [HRS.out, HQ3.out, HX.out]; simp, OOr.out, HOWN.out, BE.out⟩
            case measure => simp [intOf]; omega
          | true =>
            have HX := Lib.hid hx
            have hb4 : wc.heap.size ≤ (wr.alloc (.cells #[.int .i64 x.s, .int .i64 x.o, .int .i64 x.p, .int .i64 x.m, .int .i64 x.u] 34)).heap.size := by simp; omega
            have OOe := Lib.hid (OOr.out.alloc (.cells #[.int .i64 x.s, .int .i64 x.o, .int .i64 x.p, .int .i64 x.m, .int .i64 x.u] 34))
            have HOWe := Lib.hid (HOWN.out.alloc (.cells #[.int .i64 x.s, .int .i64 x.o, .int .i64 x.p, .int .i64 x.m, .int .i64 x.u] 34))
            have BEe := Lib.hid (BE.out.alloc hWr (.cells #[.int .i64 x.s, .int .i64 x.o, .int .i64 x.p, .int .i64 x.m, .int .i64 x.u] 34))
            go_wp2_with (at_builtin; refine wpList_append_own _ rfl _ _ 23 rfl wc.heap.size 34 iG _ 5 40 (by kernel_rfl) IFG.out.1 IFG.out.2.1 IFG.out.2.2.1 IFG.out.2.2.2 rfl (by decide) row2 qs2.length (flatT grL qs2) rfl HOWe.out _ 1 1 (grL.f x) rfl rfl (newsT (L := grL) wr x 34) (grL.one _) ?qc4 ?qc5 hb4 ?_)
            case qc4 => unfold maxLen; omega
            case qc5 => omega
            intro v2 w2 hown hgrow hnil
            have hrl := HOWe.out.lt
            have BE2 := Lib.hid (BEe.out.grown hgrow hb4 (fun k hk => (hrl k hk).1))
            have OO2 := Lib.hid (own_grown OOe.out hgrow (fun k hk => by have := (hrl k hk).1; omega))
            obtain ⟨p2, n2, c2, f0⟩ := own_slc hown
            subst f0
            have H2 := Lib.hid hown
            clear hown hgrow hnil o0 o1 o2 fO zO hrl
            obtain ⟨o0, o1, o2, fO, zO⟩ := own3 OO2.out
            go_wp2_with fail
            have OO3 := Lib.hid (OO2.out.set 1 (.slice p2 n2 c2))
            have BE3 := Lib.hid (BE2.out.set 1 (.slice p2 n2 c2))
            have H3 := Lib.hid (row_set H2.out (b := bO) (by omega) 1 (.slice p2 n2 c2))
            go_roundw
            case rel => exact ⟨s + 1, .slice p2 n2 c2, qs2 ++ [x], by omega, by go_num, by rw [HRS.out, HQ3.out, HX.out]; simp, OO3.out, by have := H3.out; rw [flatT_append, flatT_one]; simpa using this, BE3.out⟩
            case measure => simp [intOf]; omega
    · have hsD2 : s = D.toNat := by omega
      have HQ2 := Lib.hid (show qs = rinsL Gr.s x D.toNat gs by rw [← hsD2]; exact HQ.out)
      have NG := Lib.hid (show SlG wq row (rinsL Gr.s x D.toNat gs) by rw [← HQ2.out]; exact slt_of_own (L := grL) HOWN.out)
      obtain ⟨pG1, nG1, cG1, f0⟩ := NG.out.slc
      subst f0
      replace NA := Lib.hid (BE.out.slt NA.out numA OOw.out)
      replace NU := Lib.hid (BE.out.slt NU.out numU OOw.out)
      obtain ⟨r0, r1, r2, fR, zR⟩ := own3 ORr.out
      obtain ⟨o0, o1, o2, fO, zO⟩ := own3 OOr.out
      go_wp2_with fail
      have ORw2 := ORr
      clear ORw
      have ORw := ORw2
      have BLw2 := BLr
      clear BLw
      have BLw := BLw2
      clear ORw2 BLw2
      clear r0 r1 r2 fR zR o0 o1 o2 fO zO
      have FU := Lib.hid (SlT.set3 NU.out numU ORw.out (.slice pU1 nU1 cU1) (.slice pG1 nG1 cG1) (.slice pA1 nA1 cA1))
      have FG := Lib.hid (SlT.set3 NG.out numG ORw.out (.slice pU1 nU1 cU1) (.slice pG1 nG1 cG1) (.slice pA1 nA1 cA1))
      have FA := Lib.hid (SlT.set3 NA.out numA ORw.out (.slice pU1 nU1 cU1) (.slice pG1 nG1 cG1) (.slice pA1 nA1 cA1))
      have BF := Lib.hid (below_set3 (x := .slice pU1 nU1 cU1) (y := .slice pG1 nG1 cG1) (z := .slice pA1 nA1 cA1) BLw.out (show w.heap.size ≤ w.heap.size + 1 + 1 + 1 by omega))
      have OF := Lib.hid (own_set3 (x := .slice pU1 nU1 cU1) (y := .slice pG1 nG1 cG1) (z := .slice pA1 nA1 cA1) ORw.out)
      generalize (((wq.setCell ⟨w.heap.size + 1 + 1 + 1, 0, none⟩ (.slice pU1 nU1 cU1)).setCell ⟨w.heap.size + 1 + 1 + 1, 1, none⟩ (.slice pG1 nG1 cG1)).setCell ⟨w.heap.size + 1 + 1 + 1, 2, none⟩ (.slice pA1 nA1 cA1)) = wf at OF FU FG FA BF ⊢
      obtain ⟨q0, q1, q2, _, _⟩ := own3 OF.out
      go_wp2_with fail
      refine bodyPost_ret (v := .tuple #[.agg #[.slice pU1 nU1 cU1, .slice pG1 nG1 cG1, .slice pA1 nA1 cA1], .int .i64 0]) (by simp [results, Try.results15, go_sem, *]) rfl ⟨_, _, _, rfl, FU.out, FG.out, FA.out, BF.out⟩

theorem raddg_lit (vu vg va : Value) (us : List Us) (gs : List Gr) (ks : List Ak) (N D : Int) (w : World) (su : SlU w vu us) (sg : SlG w vg gs) (sa : SlA w va ks) (x : Gr) (u70 : us.length ≤ 70) (g70 : gs.length ≤ 70) (k70 : ks.length ≤ 70) (E : Int) (he : agE N D us gs ks x = E) : Calls Try.prog 15 #[.agg #[vu, vg, va], .agg #[.int .i64 N, .int .i64 D], .agg #[.int .i64 x.s, .int .i64 x.o, .int .i64 x.p, .int .i64 x.m, .int .i64 x.u]] w fun e w' => AddP w (agU us E) (agG gs x E) (adA ks x.s E) E e w' := by
  by_cases h : E = 0
  · subst h
    have := raddg_ok vu vg va us gs ks N D w su sg sa x u70 g70 k70 he
    rw [rinsG he] at this
    simpa only [auU, auG, agU, agG, adA, if_pos rfl, if_true] using this
  · have := raddg_bad vu vg va us gs ks N D w su sg sa x u70 g70 k70 E he h
    simpa only [auU, auG, agU, agG, adA, if_neg h] using this

end Go.Proofs.Ytdmadnoijhmbcaa
