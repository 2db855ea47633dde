/- cells.Valid. -/
import Derived.Test.YtdmadnoijhmbcaaSnd12
import Derived.Test.YtdmadnoijhmbcaaEnt12
import Derived.Test.YtdmadnoijhmbcaaTake12
namespace Go.Proofs.Ytdmadnoijhmbcaa
open Go.RowKit Go.Maps

theorem usnd_lit (v : Value) (l : List Us) (N D : Int) (B n : Nat) (ks : List Int) (x : Bool) (w : World) (sl : SlU w v l) (hm : CntM w B n ks) (hB : B < w.heap.size) (hn : n + l.length ≤ 1000) (hk : ks.length + l.length ≤ 1000) (hD : D ≤ 60) (h : sndU N D l = x) :
    Calls Try.prog 40 #[v, .agg #[.int .i64 N, .int .i64 D], .map (some B)] w fun e w' => SndP w B n ks (l.map Us.s) x e w' := by
  rw [← h]; exact usnd_any v l N D B n ks w sl hm hB hn hk hD
theorem gsnd_lit (v : Value) (l : List Gr) (N D : Int) (B n : Nat) (ks : List Int) (x : Bool) (w : World) (sl : SlG w v l) (hm : CntM w B n ks) (hB : B < w.heap.size) (hn : n + l.length ≤ 1000) (hk : ks.length + l.length ≤ 1000) (hD : D ≤ 60) (h : sndG N D l = x) :
    Calls Try.prog 42 #[v, .agg #[.int .i64 N, .int .i64 D], .map (some B)] w fun e w' => SndP w B n ks (l.map Gr.s) x e w' := by
  rw [← h]; exact gsnd_any v l N D B n ks w sl hm hB hn hk hD
theorem asnd_lit (v : Value) (l : List Ak) (N D : Int) (B n : Nat) (ks : List Int) (x : Bool) (w : World) (sl : SlA w v l) (hm : CntM w B n ks) (hB : B < w.heap.size) (hn : n + l.length ≤ 1000) (hk : ks.length + l.length ≤ 1000) (hD : D ≤ 60) (h : sndA N D l = x) :
    Calls Try.prog 44 #[v, .agg #[.int .i64 N, .int .i64 D], .map (some B)] w fun e w' => SndP w B n ks (l.map Ak.s) x e w' := by
  rw [← h]; exact asnd_any v l N D B n ks w sl hm hB hn hk hD
/-! ### counts -/
theorem nodup_count : ∀ l : List Int, l.Nodup ↔ ∀ a, l.count a ≤ 1
  | [] => by simp
  | x :: l => by
    have ih := nodup_count l
    rw [List.nodup_cons, ih]
    constructor
    · rintro ⟨h1, h2⟩ a
      by_cases e : a = x
      · subst e
        rw [List.count_cons_self, List.count_eq_zero.2 h1]
        exact Nat.le_refl _
      · rw [List.count_cons_of_ne (fun h => e h.symm)]
        exact h2 a
    · intro h
      refine ⟨fun hm => ?_, fun a => ?_⟩
      · have h1 := h x
        rw [List.count_cons_self] at h1
        have := List.count_pos_iff.2 hm
        omega
      · have := h a
        have h2 : l.count a ≤ (x :: l).count a := List.count_le_count_cons
        omega
/-- What the loop over the map has seen. -/
def LeftOk (ks : List Int) (left : Lit → Bool) : Prop := ∀ k ∈ ks, left (.int .i64 k) = false → ks.count k ≤ 1
theorem left_start {ks : List Int} {left : Lit → Bool} (h : ∀ k : Int, left (.int .i64 k) = true ↔ k ∈ ks) : LeftOk ks left := fun k hk hl => by
  rw [(h k).2 hk] at hl; cases hl
theorem left_end {ks : List Int} {left : Lit → Bool} (h : LeftOk ks left) (hl : ∀ k, left k = false) : ks.Nodup := (nodup_count ks).2 fun a => by
  by_cases ha : a ∈ ks
  · exact h a ha (hl _)
  · rw [List.count_eq_zero.2 ha]; omega
theorem left_step {ks : List Int} {left : Lit → Bool} {x : Int} (h : LeftOk ks left) (hx : ks.count x ≤ 1) : LeftOk ks (fun z => left z && !z.sameKey (.int .i64 x)) := fun k hk hl => by
  by_cases e : k = x
  · rw [e]; exact hx
  · have hne : (Lit.int .i64 k).sameKey (.int .i64 x) = false := Maps.sameKey_ne (fun h => e (by injection h))
    simp only [hne, Bool.not_false, Bool.and_true] at hl
    exact h k hk hl

set_option linter.unusedSimpArgs false in
set_option linter.unusedVariables false in
set_option maxRecDepth 100000 in
set_option maxHeartbeats 2000000 in
theorem vld_t0 (vu vg va : Value) (us : List Us) (gs : List Gr) (ks : List Ak) (N D : Int) (w : World) (su : SlU w vu us) (sg : SlG w vg gs) (sa : SlA w va ks) (u70 : us.length ≤ 70) (g70 : gs.length ≤ 70) (k70 : ks.length ≤ 70) (N0 : decide (N < 1) = true) : Calls Try.prog 17 #[.agg #[vu, vg, va], .agg #[.int .i64 N, .int .i64 D]] w fun e w' => e = .returned (.bool false) ∧ Below w.heap.size w w' := by
  obtain ⟨pu, cu, e0, hlu, hcu, _⟩ := su.form us.length rfl
  subst e0
  obtain ⟨pg, cg, e0, hlg, hcg, _⟩ := sg.form gs.length rfl
  subst e0
  obtain ⟨pa, ca, e0, hla, hca, _⟩ := sa.form ks.length rfl
  subst e0
  have SU := Lib.hid su
  have SG := Lib.hid sg
  have SA := Lib.hid sa
  clear su sg sa
  have iu0 : (0 : Int) ≤ (us.length : Int) := Int.natCast_nonneg _
  have ig0 : (0 : Int) ≤ (gs.length : Int) := Int.natCast_nonneg _
  have ia0 : (0 : Int) ≤ (ks.length : Int) := Int.natCast_nonneg _
  have iu : (us.length : Int) ≤ 70 := by omega
  have ig : (gs.length : Int) ≤ 70 := by omega
  have ia : (ks.length : Int) ≤ 70 := by omega
  go_enter Try.func17, Try.ntmps17
  go_wp2
  go_ret
  exact ⟨rfl, ((Below.refl _ _).alloc (Nat.le_refl _) _).alloc (by simp) _⟩

set_option linter.unusedSimpArgs false in
set_option linter.unusedVariables false in
set_option maxRecDepth 100000 in
set_option maxHeartbeats 2000000 in
theorem vld_t1 (vu vg va : Value) (us : List Us) (gs : List Gr) (ks : List Ak) (N D : Int) (w : World) (su : SlU w vu us) (sg : SlG w vg gs) (sa : SlA w va ks) (u70 : us.length ≤ 70) (g70 : gs.length ≤ 70) (k70 : ks.length ≤ 70) (N0 : decide (N < 1) = false) (N1 : decide (60 < N) = true) : Calls Try.prog 17 #[.agg #[vu, vg, va], .agg #[.int .i64 N, .int .i64 D]] w fun e w' => e = .returned (.bool false) ∧ Below w.heap.size w w' := by
  obtain ⟨pu, cu, e0, hlu, hcu, _⟩ := su.form us.length rfl
  subst e0
  obtain ⟨pg, cg, e0, hlg, hcg, _⟩ := sg.form gs.length rfl
  subst e0
  obtain ⟨pa, ca, e0, hla, hca, _⟩ := sa.form ks.length rfl
  subst e0
  have SU := Lib.hid su
  have SG := Lib.hid sg
  have SA := Lib.hid sa
  clear su sg sa
  have iu0 : (0 : Int) ≤ (us.length : Int) := Int.natCast_nonneg _
  have ig0 : (0 : Int) ≤ (gs.length : Int) := Int.natCast_nonneg _
  have ia0 : (0 : Int) ≤ (ks.length : Int) := Int.natCast_nonneg _
  have iu : (us.length : Int) ≤ 70 := by omega
  have ig : (gs.length : Int) ≤ 70 := by omega
  have ia : (ks.length : Int) ≤ 70 := by omega
  go_enter Try.func17, Try.ntmps17
  go_wp2
  go_ret
  exact ⟨rfl, ((Below.refl _ _).alloc (Nat.le_refl _) _).alloc (by simp) _⟩

set_option linter.unusedSimpArgs false in
set_option linter.unusedVariables false in
set_option maxRecDepth 100000 in
set_option maxHeartbeats 2000000 in
theorem vld_t2 (vu vg va : Value) (us : List Us) (gs : List Gr) (ks : List Ak) (N D : Int) (w : World) (su : SlU w vu us) (sg : SlG w vg gs) (sa : SlA w va ks) (u70 : us.length ≤ 70) (g70 : gs.length ≤ 70) (k70 : ks.length ≤ 70) (N0 : decide (N < 1) = false) (N1 : decide (60 < N) = false) (D0 : decide (D < 1) = true) : Calls Try.prog 17 #[.agg #[vu, vg, va], .agg #[.int .i64 N, .int .i64 D]] w fun e w' => e = .returned (.bool false) ∧ Below w.heap.size w w' := by
  obtain ⟨pu, cu, e0, hlu, hcu, _⟩ := su.form us.length rfl
  subst e0
  obtain ⟨pg, cg, e0, hlg, hcg, _⟩ := sg.form gs.length rfl
  subst e0
  obtain ⟨pa, ca, e0, hla, hca, _⟩ := sa.form ks.length rfl
  subst e0
  have SU := Lib.hid su
  have SG := Lib.hid sg
  have SA := Lib.hid sa
  clear su sg sa
  have iu0 : (0 : Int) ≤ (us.length : Int) := Int.natCast_nonneg _
  have ig0 : (0 : Int) ≤ (gs.length : Int) := Int.natCast_nonneg _
  have ia0 : (0 : Int) ≤ (ks.length : Int) := Int.natCast_nonneg _
  have iu : (us.length : Int) ≤ 70 := by omega
  have ig : (gs.length : Int) ≤ 70 := by omega
  have ia : (ks.length : Int) ≤ 70 := by omega
  go_enter Try.func17, Try.ntmps17
  go_wp2
  go_ret
  exact ⟨rfl, ((Below.refl _ _).alloc (Nat.le_refl _) _).alloc (by simp) _⟩

set_option linter.unusedSimpArgs false in
set_option linter.unusedVariables false in
set_option maxRecDepth 100000 in
set_option maxHeartbeats 2000000 in
theorem vld_t3 (vu vg va : Value) (us : List Us) (gs : List Gr) (ks : List Ak) (N D : Int) (w : World) (su : SlU w vu us) (sg : SlG w vg gs) (sa : SlA w va ks) (u70 : us.length ≤ 70) (g70 : gs.length ≤ 70) (k70 : ks.length ≤ 70) (N0 : decide (N < 1) = false) (N1 : decide (60 < N) = false) (D0 : decide (D < 1) = false) (D1 : decide (60 < D) = true) : Calls Try.prog 17 #[.agg #[vu, vg, va], .agg #[.int .i64 N, .int .i64 D]] w fun e w' => e = .returned (.bool false) ∧ Below w.heap.size w w' := by
  obtain ⟨pu, cu, e0, hlu, hcu, _⟩ := su.form us.length rfl
  subst e0
  obtain ⟨pg, cg, e0, hlg, hcg, _⟩ := sg.form gs.length rfl
  subst e0
  obtain ⟨pa, ca, e0, hla, hca, _⟩ := sa.form ks.length rfl
  subst e0
  have SU := Lib.hid su
  have SG := Lib.hid sg
  have SA := Lib.hid sa
  clear su sg sa
  have iu0 : (0 : Int) ≤ (us.length : Int) := Int.natCast_nonneg _
  have ig0 : (0 : Int) ≤ (gs.length : Int) := Int.natCast_nonneg _
  have ia0 : (0 : Int) ≤ (ks.length : Int) := Int.natCast_nonneg _
  have iu : (us.length : Int) ≤ 70 := by omega
  have ig : (gs.length : Int) ≤ 70 := by omega
  have ia : (ks.length : Int) ≤ 70 := by omega
  go_enter Try.func17, Try.ntmps17
  go_wp2
  go_ret
  exact ⟨rfl, ((Below.refl _ _).alloc (Nat.le_refl _) _).alloc (by simp) _⟩

set_option linter.unusedSimpArgs false in
set_option linter.unusedVariables false in
set_option maxRecDepth 100000 in
set_option maxHeartbeats 2000000 in
theorem vld_t4 (vu vg va : Value) (us : List Us) (gs : List Gr) (ks : List Ak) (N D : Int) (w : World) (su : SlU w vu us) (sg : SlG w vg gs) (sa : SlA w va ks) (u70 : us.length ≤ 70) (g70 : gs.length ≤ 70) (k70 : ks.length ≤ 70) (N0 : decide (N < 1) = false) (N1 : decide (60 < N) = false) (D0 : decide (D < 1) = false) (D1 : decide (60 < D) = false) (L0 : decide (24 < (us.length : Int) + (gs.length : Int)) = true) : Calls Try.prog 17 #[.agg #[vu, vg, va], .agg #[.int .i64 N, .int .i64 D]] w fun e w' => e = .returned (.bool false) ∧ Below w.heap.size w w' := by
  obtain ⟨pu, cu, e0, hlu, hcu, _⟩ := su.form us.length rfl
  subst e0
  obtain ⟨pg, cg, e0, hlg, hcg, _⟩ := sg.form gs.length rfl
  subst e0
  obtain ⟨pa, ca, e0, hla, hca, _⟩ := sa.form ks.length rfl
  subst e0
  have SU := Lib.hid su
  have SG := Lib.hid sg
  have SA := Lib.hid sa
  clear su sg sa
  have iu0 : (0 : Int) ≤ (us.length : Int) := Int.natCast_nonneg _
  have ig0 : (0 : Int) ≤ (gs.length : Int) := Int.natCast_nonneg _
  have ia0 : (0 : Int) ≤ (ks.length : Int) := Int.natCast_nonneg _
  have iu : (us.length : Int) ≤ 70 := by omega
  have ig : (gs.length : Int) ≤ 70 := by omega
  have ia : (ks.length : Int) ≤ 70 := by omega
  go_enter Try.func17, Try.ntmps17
  go_wp2
  go_ret
  exact ⟨rfl, ((Below.refl _ _).alloc (Nat.le_refl _) _).alloc (by simp) _⟩

set_option linter.unusedSimpArgs false in
set_option linter.unusedVariables false in
set_option maxRecDepth 100000 in
set_option maxHeartbeats 2000000 in
theorem vld_t5 (vu vg va : Value) (us : List Us) (gs : List Gr) (ks : List Ak) (N D : Int) (w : World) (su : SlU w vu us) (sg : SlG w vg gs) (sa : SlA w va ks) (u70 : us.length ≤ 70) (g70 : gs.length ≤ 70) (k70 : ks.length ≤ 70) (N0 : decide (N < 1) = false) (N1 : decide (60 < N) = false) (D0 : decide (D < 1) = false) (D1 : decide (60 < D) = false) (L0 : decide (24 < (us.length : Int) + (gs.length : Int)) = false) (L1 : decide (24 < (ks.length : Int)) = true) : Calls Try.prog 17 #[.agg #[vu, vg, va], .agg #[.int .i64 N, .int .i64 D]] w fun e w' => e = .returned (.bool false) ∧ Below w.heap.size w w' := by
  obtain ⟨pu, cu, e0, hlu, hcu, _⟩ := su.form us.length rfl
  subst e0
  obtain ⟨pg, cg, e0, hlg, hcg, _⟩ := sg.form gs.length rfl
  subst e0
  obtain ⟨pa, ca, e0, hla, hca, _⟩ := sa.form ks.length rfl
  subst e0
  have SU := Lib.hid su
  have SG := Lib.hid sg
  have SA := Lib.hid sa
  clear su sg sa
  have iu0 : (0 : Int) ≤ (us.length : Int) := Int.natCast_nonneg _
  have ig0 : (0 : Int) ≤ (gs.length : Int) := Int.natCast_nonneg _
  have ia0 : (0 : Int) ≤ (ks.length : Int) := Int.natCast_nonneg _
  have iu : (us.length : Int) ≤ 70 := by omega
  have ig : (gs.length : Int) ≤ 70 := by omega
  have ia : (ks.length : Int) ≤ 70 := by omega
  go_enter Try.func17, Try.ntmps17
  go_wp2
  go_ret
  exact ⟨rfl, ((Below.refl _ _).alloc (Nat.le_refl _) _).alloc (by simp) _⟩

set_option linter.unusedSimpArgs false in
set_option linter.unusedVariables false in
set_option maxRecDepth 100000 in
set_option maxHeartbeats 2000000 in
theorem vld_u (vu vg va : Value) (us : List Us) (gs : List Gr) (ks : List Ak) (N D : Int) (w : World) (su : SlU w vu us) (sg : SlG w vg gs) (sa : SlA w va ks) (u70 : us.length ≤ 70) (g70 : gs.length ≤ 70) (k70 : ks.length ≤ 70) (N0 : decide (N < 1) = false) (N1 : decide (60 < N) = false) (D0 : decide (D < 1) = false) (D1 : decide (60 < D) = false) (L0 : decide (24 < (us.length : Int) + (gs.length : Int)) = false) (L1 : decide (24 < (ks.length : Int)) = false) (hs : sndU N D us = false) : Calls Try.prog 17 #[.agg #[vu, vg, va], .agg #[.int .i64 N, .int .i64 D]] w fun e w' => e = .returned (.bool false) ∧ Below w.heap.size w w' := by
  obtain ⟨pu, cu, e0, hlu, hcu, _⟩ := su.form us.length rfl
  subst e0
  obtain ⟨pg, cg, e0, hlg, hcg, _⟩ := sg.form gs.length rfl
  subst e0
  obtain ⟨pa, ca, e0, hla, hca, _⟩ := sa.form ks.length rfl
  subst e0
  have SU := Lib.hid su
  have SG := Lib.hid sg
  have SA := Lib.hid sa
  clear su sg sa
  have iu0 : (0 : Int) ≤ (us.length : Int) := Int.natCast_nonneg _
  have ig0 : (0 : Int) ≤ (gs.length : Int) := Int.natCast_nonneg _
  have ia0 : (0 : Int) ≤ (ks.length : Int) := Int.natCast_nonneg _
  have iu : (us.length : Int) ≤ 70 := by omega
  have ig : (gs.length : Int) ≤ 70 := by omega
  have ia : (ks.length : Int) ≤ 70 := by omega
  have hmm := @run_makeMap Try.prog
  have hD60 : D ≤ 60 := by have := of_decide_eq_false D1; omega
  have HSU := Lib.hid hs
  clear hs
  go_enter Try.func17, Try.ntmps17
  go_wp2_with fail
  have OTx := Lib.hid ((((own_at (w := w) [.slice pu us.length cu, .slice pg gs.length cg, .slice pa ks.length ca] 26 rfl).alloc (.cells #[.int .i64 N, .int .i64 D] 28)).alloc (.map #[] 0)))
  have OYx := Lib.hid (((own_at (w := w.alloc (.cells #[.slice pu us.length cu, .slice pg gs.length cg, .slice pa ks.length ca] 26)) (n := w.heap.size + 1) [.int .i64 N, .int .i64 D] 28 (by simp)).alloc (.map #[] 0)))
  have HMx := Lib.hid (cnt_made ((w.alloc (.cells #[.slice pu us.length cu, .slice pg gs.length cg, .slice pa ks.length ca] 26)).alloc (.cells #[.int .i64 N, .int .i64 D] 28)))
  have BBx := Lib.hid ((((Below.refl w.heap.size w).alloc (Nat.le_refl _) (.cells #[.slice pu us.length cu, .slice pg gs.length cg, .slice pa ks.length ca] 26)).alloc (by simp) (.cells #[.int .i64 N, .int .i64 D] 28)).alloc (by simp; omega) (.map #[] 0))
  have SUx := Lib.hid (SU.out.below BBx.out)
  have SGx := Lib.hid (SG.out.below BBx.out)
  have SAx := Lib.hid (SA.out.below BBx.out)
  obtain ⟨B, hB⟩ : ∃ B, ((w.alloc (.cells #[.slice pu us.length cu, .slice pg gs.length cg, .slice pa ks.length ca] 26)).alloc (.cells #[.int .i64 N, .int .i64 D] 28)).heap.size = B := ⟨_, rfl⟩
  have hbw2 : w.heap.size ≤ B := by rw [← hB]; simp; omega
  rw [hB] at HMx
  have hB' : w.heap.size + 1 + 1 = B := by rw [← hB]; simp
  rw [hB']
  have hbw := BBx.out.size
  clear hB hB'
  change Code.wp _ _ _ _ (((w.alloc (.cells #[.slice pu us.length cu, .slice pg gs.length cg, .slice pa ks.length ca] 26)).alloc (.cells #[.int .i64 N, .int .i64 D] 28)).alloc (.map #[] 0))
  generalize ((w.alloc (.cells #[.slice pu us.length cu, .slice pg gs.length cg, .slice pa ks.length ca] 26)).alloc (.cells #[.int .i64 N, .int .i64 D] 28)).alloc (.map #[] 0) = W at OTx OYx HMx BBx SUx SGx SAx hbw ⊢
  have OT0 := Lib.hid (OTx.out.drew)
  have OY0 := Lib.hid (OYx.out.drew)
  have BD := Lib.hid (Below.refl W.heap.size W).drew
  have HM0 := Lib.hid (HMx.out.below BD.out)
  have SU0 := Lib.hid (SUx.out.below BD.out)
  have SG0 := Lib.hid (SGx.out.below BD.out)
  have SA0 := Lib.hid (SAx.out.below BD.out)
  have BB0 := Lib.hid (BBx.out.drew)
  clear OTx OYx HMx BBx SUx SGx SAx BD SU SG SA
  obtain ⟨t0, t1, t2, _, _⟩ := own3 OT0.out
  obtain ⟨y0, y1, _, _⟩ := own2 OY0.out
  refine region_H 25 #[false, false, false, false, false, false, false, false, false, false, false, false, false, false, false, false, false, false, false, false, false, false, false, false, false] (by kernel_rfl) (by kernel_rfl) (fun w' => w'.cell? ⟨w.heap.size, 0, none⟩ = some (.slice pu us.length cu) ∧ w'.cell? ⟨w.heap.size, 1, none⟩ = some (.slice pg gs.length cg) ∧ w'.cell? ⟨w.heap.size, 2, none⟩ = some (.slice pa ks.length ca) ∧ w'.cell? ⟨w.heap.size + 1, 0, none⟩ = some (.int .i64 N) ∧ w'.cell? ⟨w.heap.size + 1, 1, none⟩ = some (.int .i64 D)) (by kernel_rfl) ?x1s (fun hHeld => ?x1r)
  case x1s => exact ⟨t0, t1, t2, y0, y1⟩
  refine wpH_take (i := 0) (some 43) (v := ?x2v) rfl (by kernel_rfl) (by kernel_rfl) (by kernel_rfl) rfl (fun _ _ _ h => h) (Or.inl ⟨by rfl, ?x2y⟩) hHeld ?x2r
  case x2y => (intro w hSw; (try dsimp only at hSw); go_simp; try with_reducible rfl)
  try simp only [Act.put, List.setIfInBounds_toArray, List.set_cons_zero, List.set_cons_succ]
  refine wpH_take (i := 1) (some 44) (v := ?x3v) rfl (by kernel_rfl) (by kernel_rfl) (by kernel_rfl) rfl (fun _ _ _ h => h) (Or.inl ⟨by rfl, ?x3y⟩) hHeld ?x3r
  case x3y => (intro w hSw; (try dsimp only at hSw); go_simp; try with_reducible rfl)
  try simp only [Act.put, List.setIfInBounds_toArray, List.set_cons_zero, List.set_cons_succ]
  refine wpH_take (i := 3) (some 46) (v := ?x4v) rfl (by kernel_rfl) (by kernel_rfl) (by kernel_rfl) rfl (fun _ _ _ h => h) (Or.inl ⟨by rfl, ?x4y⟩) hHeld ?x4r
  case x4y => (intro w hSw; (try dsimp only at hSw); go_simp; try with_reducible rfl)
  try simp only [Act.put, List.setIfInBounds_toArray, List.set_cons_zero, List.set_cons_succ]
  refine wpH_take (i := 4) (some 47) (v := ?x5v) rfl (by kernel_rfl) (by kernel_rfl) (by kernel_rfl) rfl (fun _ _ _ h => h) (Or.inl ⟨by rfl, ?x5y⟩) hHeld ?x5r
  case x5y => (intro w hSw; (try dsimp only at hSw); go_simp; try with_reducible rfl)
  try simp only [Act.put, List.setIfInBounds_toArray, List.set_cons_zero, List.set_cons_succ]
  refine wpH_one (i := 2) (by kernel_rfl) rfl (fun K hK => ?_)
  rw [if_pos (by rfl)]
  go_simp
  refine (uent_any _ us _ SU0.out (by omega)).mono ?_
  rintro e wa0 ⟨v0, rfl, hsl, hb⟩
  have E0 := Lib.hid (hsl)
  have OTa0 := Lib.hid (OT0.out.below hb)
  have OYa0 := Lib.hid (OY0.out.below hb)
  have HMa0 := Lib.hid (HM0.out.below hb)
  have BA0 := Lib.hid (belowTo BB0.out hb BB0.out.size)
  have SGa0 := Lib.hid (SG0.out.below hb)
  have SAa0 := Lib.hid (SA0.out.below hb)
  clear hsl hb
  obtain ⟨p0, c0, f0, _, _, _⟩ := E0.out.form us.length rfl
  subst f0
  obtain ⟨a00, a01, a02, _, _⟩ := own3 OTa0.out
  obtain ⟨a03, a04, _, _⟩ := own2 OYa0.out
  refine hK.out _ _ (⟨a00, a01, a02, a03, a04⟩) ?_
  clear hK K hHeld
  intro hHeld
  try simp only [Act.put, List.setIfInBounds_toArray, List.set_cons_zero, List.set_cons_succ]
  refine wpH_one (i := 5) (by kernel_rfl) rfl (fun K hK => ?_)
  rw [if_pos (by rfl)]
  go_simp
  refine (usnd_lit _ us N D B 0 ([] : List Int) false _ E0.out HMa0.out HMa0.out.lt (by first | omega | (simp; omega)) (by first | omega | (simp; omega)) hD60 HSU.out).mono ?_
  rintro e wb0 ⟨rfl, hg, hcnt⟩
  have OT1 := Lib.hid (OTa0.out.grown HMa0.out hg)
  have OY1 := Lib.hid (OYa0.out.grown HMa0.out hg)
  have BB1 := Lib.hid (BA0.out.grown hg BA0.out.size (fun k hk => by cases hk; exact hbw2))
  have SG1 := Lib.hid (SGa0.out.grown HMa0.out hg)
  have SA1 := Lib.hid (SAa0.out.grown HMa0.out hg)
  clear hg hcnt
  obtain ⟨b00, b01, b02, _, _⟩ := own3 OT1.out
  obtain ⟨b03, b04, _, _⟩ := own2 OY1.out
  refine hK.out _ _ (⟨b00, b01, b02, b03, b04⟩) ?_
  clear hK K hHeld
  intro hHeld
  try simp only [Act.put, List.setIfInBounds_toArray, List.set_cons_zero, List.set_cons_succ]
  refine wpH_take (i := 6) (some 49) (v := ?x8v) rfl (by kernel_rfl) (by kernel_rfl) (by kernel_rfl) rfl (fun _ _ _ h => h) (Or.inl ⟨by rfl, ?x8y⟩) hHeld ?x8r
  case x8y => (intro w hSw; (try dsimp only at hSw); go_simp; try with_reducible rfl)
  try simp only [Act.put, List.setIfInBounds_toArray, List.set_cons_zero, List.set_cons_succ]
  refine wpH_take (i := 7) (some 50) (v := ?x9v) rfl (by kernel_rfl) (by kernel_rfl) (by kernel_rfl) rfl (fun _ _ _ h => h) (Or.inl ⟨by rfl, ?x9y⟩) hHeld ?x9r
  case x9y => (intro w hSw; (try dsimp only at hSw); go_simp; try with_reducible rfl)
  try simp only [Act.put, List.setIfInBounds_toArray, List.set_cons_zero, List.set_cons_succ]
  refine wpH_take (i := 8) (some 51) (v := undef) rfl (by kernel_rfl) (by kernel_rfl) (by kernel_rfl) rfl (fun _ _ _ h => h) (Or.inr ⟨by rfl, rfl⟩) hHeld ?x10r
  try simp only [Act.put, List.setIfInBounds_toArray, List.set_cons_zero, List.set_cons_succ]
  refine wpH_take (i := 9) (some 52) (v := undef) rfl (by kernel_rfl) (by kernel_rfl) (by kernel_rfl) rfl (fun _ _ _ h => h) (Or.inr ⟨by rfl, rfl⟩) hHeld ?x11r
  try simp only [Act.put, List.setIfInBounds_toArray, List.set_cons_zero, List.set_cons_succ]
  refine wpH_take (i := 10) (some 53) (v := undef) rfl (by kernel_rfl) (by kernel_rfl) (by kernel_rfl) rfl (fun _ _ _ h => h) (Or.inr ⟨by rfl, rfl⟩) hHeld ?x12r
  try simp only [Act.put, List.setIfInBounds_toArray, List.set_cons_zero, List.set_cons_succ]
  refine wpH_take (i := 11) (some 54) (v := undef) rfl (by kernel_rfl) (by kernel_rfl) (by kernel_rfl) rfl (fun _ _ _ h => h) (Or.inr ⟨by rfl, rfl⟩) hHeld ?x13r
  try simp only [Act.put, List.setIfInBounds_toArray, List.set_cons_zero, List.set_cons_succ]
  refine wpH_take (i := 12) (some 55) (v := undef) rfl (by kernel_rfl) (by kernel_rfl) (by kernel_rfl) rfl (fun _ _ _ h => h) (Or.inr ⟨by rfl, rfl⟩) hHeld ?x14r
  try simp only [Act.put, List.setIfInBounds_toArray, List.set_cons_zero, List.set_cons_succ]
  refine wpH_take (i := 13) (some 56) (v := undef) rfl (by kernel_rfl) (by kernel_rfl) (by kernel_rfl) rfl (fun _ _ _ h => h) (Or.inr ⟨by rfl, rfl⟩) hHeld ?x15r
  try simp only [Act.put, List.setIfInBounds_toArray, List.set_cons_zero, List.set_cons_succ]
  refine wpH_take (i := 14) (some 57) (v := undef) rfl (by kernel_rfl) (by kernel_rfl) (by kernel_rfl) rfl (fun _ _ _ h => h) (Or.inr ⟨by rfl, rfl⟩) hHeld ?x16r
  try simp only [Act.put, List.setIfInBounds_toArray, List.set_cons_zero, List.set_cons_succ]
  refine wpH_take (i := 15) (some 58) (v := ?x17v) rfl (by kernel_rfl) (by kernel_rfl) (by kernel_rfl) rfl (fun _ _ _ h => h) (Or.inl ⟨by rfl, ?x17y⟩) hHeld ?x17r
  case x17y => (intro w hSw; (try dsimp only at hSw); go_simp; try with_reducible rfl)
  try simp only [Act.put, List.setIfInBounds_toArray, List.set_cons_zero, List.set_cons_succ]
  refine wpH_take (i := 16) (some 59) (v := ?x18v) rfl (by kernel_rfl) (by kernel_rfl) (by kernel_rfl) rfl (fun _ _ _ h => h) (Or.inl ⟨by rfl, ?x18y⟩) hHeld ?x18r
  case x18y => (intro w hSw; (try dsimp only at hSw); go_simp; try with_reducible rfl)
  try simp only [Act.put, List.setIfInBounds_toArray, List.set_cons_zero, List.set_cons_succ]
  refine wpH_take (i := 17) (some 60) (v := undef) rfl (by kernel_rfl) (by kernel_rfl) (by kernel_rfl) rfl (fun _ _ _ h => h) (Or.inr ⟨by rfl, rfl⟩) hHeld ?x19r
  try simp only [Act.put, List.setIfInBounds_toArray, List.set_cons_zero, List.set_cons_succ]
  refine wpH_take (i := 18) (some 61) (v := undef) rfl (by kernel_rfl) (by kernel_rfl) (by kernel_rfl) rfl (fun _ _ _ h => h) (Or.inr ⟨by rfl, rfl⟩) hHeld ?x20r
  try simp only [Act.put, List.setIfInBounds_toArray, List.set_cons_zero, List.set_cons_succ]
  refine wpH_take (i := 19) (some 62) (v := undef) rfl (by kernel_rfl) (by kernel_rfl) (by kernel_rfl) rfl (fun _ _ _ h => h) (Or.inr ⟨by rfl, rfl⟩) hHeld ?x21r
  try simp only [Act.put, List.setIfInBounds_toArray, List.set_cons_zero, List.set_cons_succ]
  refine wpH_take (i := 20) (some 63) (v := undef) rfl (by kernel_rfl) (by kernel_rfl) (by kernel_rfl) rfl (fun _ _ _ h => h) (Or.inr ⟨by rfl, rfl⟩) hHeld ?x22r
  try simp only [Act.put, List.setIfInBounds_toArray, List.set_cons_zero, List.set_cons_succ]
  refine wpH_take (i := 21) (some 64) (v := undef) rfl (by kernel_rfl) (by kernel_rfl) (by kernel_rfl) rfl (fun _ _ _ h => h) (Or.inr ⟨by rfl, rfl⟩) hHeld ?x23r
  try simp only [Act.put, List.setIfInBounds_toArray, List.set_cons_zero, List.set_cons_succ]
  refine wpH_take (i := 22) (some 65) (v := undef) rfl (by kernel_rfl) (by kernel_rfl) (by kernel_rfl) rfl (fun _ _ _ h => h) (Or.inr ⟨by rfl, rfl⟩) hHeld ?x24r
  try simp only [Act.put, List.setIfInBounds_toArray, List.set_cons_zero, List.set_cons_succ]
  refine wpH_take (i := 23) (some 66) (v := undef) rfl (by kernel_rfl) (by kernel_rfl) (by kernel_rfl) rfl (fun _ _ _ h => h) (Or.inr ⟨by rfl, rfl⟩) hHeld ?x25r
  try simp only [Act.put, List.setIfInBounds_toArray, List.set_cons_zero, List.set_cons_succ]
  refine wpH_take (i := 24) (some 67) (v := ?x26v) rfl (by kernel_rfl) (by kernel_rfl) (by kernel_rfl) rfl (fun _ _ _ h => h) (Or.inl ⟨by rfl, ?x26y⟩) hHeld ?x26r
  case x26y => (intro w hSw; (try dsimp only at hSw); go_simp; try with_reducible rfl)
  try simp only [Act.put, List.setIfInBounds_toArray, List.set_cons_zero, List.set_cons_succ]
  refine wpAnyH_done (by kernel_rfl) ?_ _
  go_wp2
  go_ret
  exact ⟨rfl, BB1.out⟩

set_option linter.unusedSimpArgs false in
set_option linter.unusedVariables false in
set_option maxRecDepth 100000 in
set_option maxHeartbeats 2000000 in
theorem vld_g (vu vg va : Value) (us : List Us) (gs : List Gr) (ks : List Ak) (N D : Int) (w : World) (su : SlU w vu us) (sg : SlG w vg gs) (sa : SlA w va ks) (u70 : us.length ≤ 70) (g70 : gs.length ≤ 70) (k70 : ks.length ≤ 70) (N0 : decide (N < 1) = false) (N1 : decide (60 < N) = false) (D0 : decide (D < 1) = false) (D1 : decide (60 < D) = false) (L0 : decide (24 < (us.length : Int) + (gs.length : Int)) = false) (L1 : decide (24 < (ks.length : Int)) = false) (hs : sndU N D us = true) (hg : sndG N D gs = false) : Calls Try.prog 17 #[.agg #[vu, vg, va], .agg #[.int .i64 N, .int .i64 D]] w fun e w' => e = .returned (.bool false) ∧ Below w.heap.size w w' := by
  obtain ⟨pu, cu, e0, hlu, hcu, _⟩ := su.form us.length rfl
  subst e0
  obtain ⟨pg, cg, e0, hlg, hcg, _⟩ := sg.form gs.length rfl
  subst e0
  obtain ⟨pa, ca, e0, hla, hca, _⟩ := sa.form ks.length rfl
  subst e0
  have SU := Lib.hid su
  have SG := Lib.hid sg
  have SA := Lib.hid sa
  clear su sg sa
  have iu0 : (0 : Int) ≤ (us.length : Int) := Int.natCast_nonneg _
  have ig0 : (0 : Int) ≤ (gs.length : Int) := Int.natCast_nonneg _
  have ia0 : (0 : Int) ≤ (ks.length : Int) := Int.natCast_nonneg _
  have iu : (us.length : Int) ≤ 70 := by omega
  have ig : (gs.length : Int) ≤ 70 := by omega
  have ia : (ks.length : Int) ≤ 70 := by omega
  have hmm := @run_makeMap Try.prog
  have hD60 : D ≤ 60 := by have := of_decide_eq_false D1; omega
  have HSU := Lib.hid hs
  have HSG := Lib.hid hg
  clear hs hg
  go_enter Try.func17, Try.ntmps17
  go_wp2_with fail
  have OTx := Lib.hid ((((own_at (w := w) [.slice pu us.length cu, .slice pg gs.length cg, .slice pa ks.length ca] 26 rfl).alloc (.cells #[.int .i64 N, .int .i64 D] 28)).alloc (.map #[] 0)))
  have OYx := Lib.hid (((own_at (w := w.alloc (.cells #[.slice pu us.length cu, .slice pg gs.length cg, .slice pa ks.length ca] 26)) (n := w.heap.size + 1) [.int .i64 N, .int .i64 D] 28 (by simp)).alloc (.map #[] 0)))
  have HMx := Lib.hid (cnt_made ((w.alloc (.cells #[.slice pu us.length cu, .slice pg gs.length cg, .slice pa ks.length ca] 26)).alloc (.cells #[.int .i64 N, .int .i64 D] 28)))
  have BBx := Lib.hid ((((Below.refl w.heap.size w).alloc (Nat.le_refl _) (.cells #[.slice pu us.length cu, .slice pg gs.length cg, .slice pa ks.length ca] 26)).alloc (by simp) (.cells #[.int .i64 N, .int .i64 D] 28)).alloc (by simp; omega) (.map #[] 0))
  have SUx := Lib.hid (SU.out.below BBx.out)
  have SGx := Lib.hid (SG.out.below BBx.out)
  have SAx := Lib.hid (SA.out.below BBx.out)
  obtain ⟨B, hB⟩ : ∃ B, ((w.alloc (.cells #[.slice pu us.length cu, .slice pg gs.length cg, .slice pa ks.length ca] 26)).alloc (.cells #[.int .i64 N, .int .i64 D] 28)).heap.size = B := ⟨_, rfl⟩
  have hbw2 : w.heap.size ≤ B := by rw [← hB]; simp; omega
  rw [hB] at HMx
  have hB' : w.heap.size + 1 + 1 = B := by rw [← hB]; simp
  rw [hB']
  have hbw := BBx.out.size
  clear hB hB'
  change Code.wp _ _ _ _ (((w.alloc (.cells #[.slice pu us.length cu, .slice pg gs.length cg, .slice pa ks.length ca] 26)).alloc (.cells #[.int .i64 N, .int .i64 D] 28)).alloc (.map #[] 0))
  generalize ((w.alloc (.cells #[.slice pu us.length cu, .slice pg gs.length cg, .slice pa ks.length ca] 26)).alloc (.cells #[.int .i64 N, .int .i64 D] 28)).alloc (.map #[] 0) = W at OTx OYx HMx BBx SUx SGx SAx hbw ⊢
  have OT0 := Lib.hid (OTx.out.drew)
  have OY0 := Lib.hid (OYx.out.drew)
  have BD := Lib.hid (Below.refl W.heap.size W).drew
  have HM0 := Lib.hid (HMx.out.below BD.out)
  have SU0 := Lib.hid (SUx.out.below BD.out)
  have SG0 := Lib.hid (SGx.out.below BD.out)
  have SA0 := Lib.hid (SAx.out.below BD.out)
  have BB0 := Lib.hid (BBx.out.drew)
  clear OTx OYx HMx BBx SUx SGx SAx BD SU SG SA
  obtain ⟨t0, t1, t2, _, _⟩ := own3 OT0.out
  obtain ⟨y0, y1, _, _⟩ := own2 OY0.out
  refine region_H 25 #[false, false, false, false, false, false, false, false, false, false, false, false, false, false, false, false, false, false, false, false, false, false, false, false, false] (by kernel_rfl) (by kernel_rfl) (fun w' => w'.cell? ⟨w.heap.size, 0, none⟩ = some (.slice pu us.length cu) ∧ w'.cell? ⟨w.heap.size, 1, none⟩ = some (.slice pg gs.length cg) ∧ w'.cell? ⟨w.heap.size, 2, none⟩ = some (.slice pa ks.length ca) ∧ w'.cell? ⟨w.heap.size + 1, 0, none⟩ = some (.int .i64 N) ∧ w'.cell? ⟨w.heap.size + 1, 1, none⟩ = some (.int .i64 D)) (by kernel_rfl) ?x27s (fun hHeld => ?x27r)
  case x27s => exact ⟨t0, t1, t2, y0, y1⟩
  refine wpH_take (i := 0) (some 43) (v := ?x28v) rfl (by kernel_rfl) (by kernel_rfl) (by kernel_rfl) rfl (fun _ _ _ h => h) (Or.inl ⟨by rfl, ?x28y⟩) hHeld ?x28r
  case x28y => (intro w hSw; (try dsimp only at hSw); go_simp; try with_reducible rfl)
  try simp only [Act.put, List.setIfInBounds_toArray, List.set_cons_zero, List.set_cons_succ]
  refine wpH_take (i := 1) (some 44) (v := ?x29v) rfl (by kernel_rfl) (by kernel_rfl) (by kernel_rfl) rfl (fun _ _ _ h => h) (Or.inl ⟨by rfl, ?x29y⟩) hHeld ?x29r
  case x29y => (intro w hSw; (try dsimp only at hSw); go_simp; try with_reducible rfl)
  try simp only [Act.put, List.setIfInBounds_toArray, List.set_cons_zero, List.set_cons_succ]
  refine wpH_take (i := 3) (some 46) (v := ?x30v) rfl (by kernel_rfl) (by kernel_rfl) (by kernel_rfl) rfl (fun _ _ _ h => h) (Or.inl ⟨by rfl, ?x30y⟩) hHeld ?x30r
  case x30y => (intro w hSw; (try dsimp only at hSw); go_simp; try with_reducible rfl)
  try simp only [Act.put, List.setIfInBounds_toArray, List.set_cons_zero, List.set_cons_succ]
  refine wpH_take (i := 4) (some 47) (v := ?x31v) rfl (by kernel_rfl) (by kernel_rfl) (by kernel_rfl) rfl (fun _ _ _ h => h) (Or.inl ⟨by rfl, ?x31y⟩) hHeld ?x31r
  case x31y => (intro w hSw; (try dsimp only at hSw); go_simp; try with_reducible rfl)
  try simp only [Act.put, List.setIfInBounds_toArray, List.set_cons_zero, List.set_cons_succ]
  refine wpH_one (i := 2) (by kernel_rfl) rfl (fun K hK => ?_)
  rw [if_pos (by rfl)]
  go_simp
  refine (uent_any _ us _ SU0.out (by omega)).mono ?_
  rintro e wa0 ⟨v0, rfl, hsl, hb⟩
  have E0 := Lib.hid (hsl)
  have OTa0 := Lib.hid (OT0.out.below hb)
  have OYa0 := Lib.hid (OY0.out.below hb)
  have HMa0 := Lib.hid (HM0.out.below hb)
  have BA0 := Lib.hid (belowTo BB0.out hb BB0.out.size)
  have SGa0 := Lib.hid (SG0.out.below hb)
  have SAa0 := Lib.hid (SA0.out.below hb)
  clear hsl hb
  obtain ⟨p0, c0, f0, _, _, _⟩ := E0.out.form us.length rfl
  subst f0
  obtain ⟨a00, a01, a02, _, _⟩ := own3 OTa0.out
  obtain ⟨a03, a04, _, _⟩ := own2 OYa0.out
  refine hK.out _ _ (⟨a00, a01, a02, a03, a04⟩) ?_
  clear hK K hHeld
  intro hHeld
  try simp only [Act.put, List.setIfInBounds_toArray, List.set_cons_zero, List.set_cons_succ]
  refine wpH_one (i := 5) (by kernel_rfl) rfl (fun K hK => ?_)
  rw [if_pos (by rfl)]
  go_simp
  refine (usnd_lit _ us N D B 0 ([] : List Int) true _ E0.out HMa0.out HMa0.out.lt (by first | omega | (simp; omega)) (by first | omega | (simp; omega)) hD60 HSU.out).mono ?_
  rintro e wb0 ⟨rfl, hg, hcnt⟩
  have OT1 := Lib.hid (OTa0.out.grown HMa0.out hg)
  have OY1 := Lib.hid (OYa0.out.grown HMa0.out hg)
  have BB1 := Lib.hid (BA0.out.grown hg BA0.out.size (fun k hk => by cases hk; exact hbw2))
  have SG1 := Lib.hid (SGa0.out.grown HMa0.out hg)
  have SA1 := Lib.hid (SAa0.out.grown HMa0.out hg)
  have HM1 := Lib.hid (hcnt rfl)
  clear hg hcnt
  obtain ⟨b00, b01, b02, _, _⟩ := own3 OT1.out
  obtain ⟨b03, b04, _, _⟩ := own2 OY1.out
  refine hK.out _ _ (⟨b00, b01, b02, b03, b04⟩) ?_
  clear hK K hHeld
  intro hHeld
  try simp only [Act.put, List.setIfInBounds_toArray, List.set_cons_zero, List.set_cons_succ]
  refine wpH_take (i := 6) (some 49) (v := ?x34v) rfl (by kernel_rfl) (by kernel_rfl) (by kernel_rfl) rfl (fun _ _ _ h => h) (Or.inl ⟨by rfl, ?x34y⟩) hHeld ?x34r
  case x34y => (intro w hSw; (try dsimp only at hSw); go_simp; try with_reducible rfl)
  try simp only [Act.put, List.setIfInBounds_toArray, List.set_cons_zero, List.set_cons_succ]
  refine wpH_take (i := 7) (some 50) (v := ?x35v) rfl (by kernel_rfl) (by kernel_rfl) (by kernel_rfl) rfl (fun _ _ _ h => h) (Or.inl ⟨by rfl, ?x35y⟩) hHeld ?x35r
  case x35y => (intro w hSw; (try dsimp only at hSw); go_simp; try with_reducible rfl)
  try simp only [Act.put, List.setIfInBounds_toArray, List.set_cons_zero, List.set_cons_succ]
  refine wpH_take (i := 8) (some 51) (v := ?x36v) rfl (by kernel_rfl) (by kernel_rfl) (by kernel_rfl) rfl (fun _ _ _ h => h) (Or.inl ⟨by rfl, ?x36y⟩) hHeld ?x36r
  case x36y => (intro w hSw; (try dsimp only at hSw); go_simp; try with_reducible rfl)
  try simp only [Act.put, List.setIfInBounds_toArray, List.set_cons_zero, List.set_cons_succ]
  refine wpH_take (i := 9) (some 52) (v := ?x37v) rfl (by kernel_rfl) (by kernel_rfl) (by kernel_rfl) rfl (fun _ _ _ h => h) (Or.inl ⟨by rfl, ?x37y⟩) hHeld ?x37r
  case x37y => (intro w hSw; (try dsimp only at hSw); go_simp; try with_reducible rfl)
  try simp only [Act.put, List.setIfInBounds_toArray, List.set_cons_zero, List.set_cons_succ]
  refine wpH_take (i := 11) (some 54) (v := ?x38v) rfl (by kernel_rfl) (by kernel_rfl) (by kernel_rfl) rfl (fun _ _ _ h => h) (Or.inl ⟨by rfl, ?x38y⟩) hHeld ?x38r
  case x38y => (intro w hSw; (try dsimp only at hSw); go_simp; try with_reducible rfl)
  try simp only [Act.put, List.setIfInBounds_toArray, List.set_cons_zero, List.set_cons_succ]
  refine wpH_take (i := 12) (some 55) (v := ?x39v) rfl (by kernel_rfl) (by kernel_rfl) (by kernel_rfl) rfl (fun _ _ _ h => h) (Or.inl ⟨by rfl, ?x39y⟩) hHeld ?x39r
  case x39y => (intro w hSw; (try dsimp only at hSw); go_simp; try with_reducible rfl)
  try simp only [Act.put, List.setIfInBounds_toArray, List.set_cons_zero, List.set_cons_succ]
  refine wpH_one (i := 10) (by kernel_rfl) rfl (fun K hK => ?_)
  rw [if_pos (by rfl)]
  go_simp
  refine (gent_any _ gs _ SG1.out (by omega)).mono ?_
  rintro e wa1 ⟨v1, rfl, hsl, hb⟩
  have E1 := Lib.hid (hsl)
  have OTa1 := Lib.hid (OT1.out.below hb)
  have OYa1 := Lib.hid (OY1.out.below hb)
  have HMa1 := Lib.hid (HM1.out.below hb)
  have BA1 := Lib.hid (belowTo BB1.out hb BB1.out.size)
  have SAa1 := Lib.hid (SA1.out.below hb)
  clear hsl hb
  obtain ⟨p1, c1, f0, _, _, _⟩ := E1.out.form gs.length rfl
  subst f0
  obtain ⟨a10, a11, a12, _, _⟩ := own3 OTa1.out
  obtain ⟨a13, a14, _, _⟩ := own2 OYa1.out
  refine hK.out _ _ (⟨a10, a11, a12, a13, a14⟩) ?_
  clear hK K hHeld
  intro hHeld
  try simp only [Act.put, List.setIfInBounds_toArray, List.set_cons_zero, List.set_cons_succ]
  refine wpH_one (i := 13) (by kernel_rfl) rfl (fun K hK => ?_)
  rw [if_pos (by rfl)]
  go_simp
  refine (gsnd_lit _ gs N D B (0 + (us.map Us.s).length) ([] ++ us.map Us.s) false _ E1.out HMa1.out HMa1.out.lt (by first | omega | (simp; omega)) (by first | omega | (simp; omega)) hD60 HSG.out).mono ?_
  rintro e wb1 ⟨rfl, hg, hcnt⟩
  have OT2 := Lib.hid (OTa1.out.grown HMa1.out hg)
  have OY2 := Lib.hid (OYa1.out.grown HMa1.out hg)
  have BB2 := Lib.hid (BA1.out.grown hg BA1.out.size (fun k hk => by cases hk; exact hbw2))
  have SA2 := Lib.hid (SAa1.out.grown HMa1.out hg)
  clear hg hcnt
  obtain ⟨b10, b11, b12, _, _⟩ := own3 OT2.out
  obtain ⟨b13, b14, _, _⟩ := own2 OY2.out
  refine hK.out _ _ (⟨b10, b11, b12, b13, b14⟩) ?_
  clear hK K hHeld
  intro hHeld
  try simp only [Act.put, List.setIfInBounds_toArray, List.set_cons_zero, List.set_cons_succ]
  refine wpH_take (i := 14) (some 57) (v := ?x42v) rfl (by kernel_rfl) (by kernel_rfl) (by kernel_rfl) rfl (fun _ _ _ h => h) (Or.inl ⟨by rfl, ?x42y⟩) hHeld ?x42r
  case x42y => (intro w hSw; (try dsimp only at hSw); go_simp; try with_reducible rfl)
  try simp only [Act.put, List.setIfInBounds_toArray, List.set_cons_zero, List.set_cons_succ]
  refine wpH_take (i := 15) (some 58) (v := ?x43v) rfl (by kernel_rfl) (by kernel_rfl) (by kernel_rfl) rfl (fun _ _ _ h => h) (Or.inl ⟨by rfl, ?x43y⟩) hHeld ?x43r
  case x43y => (intro w hSw; (try dsimp only at hSw); go_simp; try with_reducible rfl)
  try simp only [Act.put, List.setIfInBounds_toArray, List.set_cons_zero, List.set_cons_succ]
  refine wpH_take (i := 16) (some 59) (v := ?x44v) rfl (by kernel_rfl) (by kernel_rfl) (by kernel_rfl) rfl (fun _ _ _ h => h) (Or.inl ⟨by rfl, ?x44y⟩) hHeld ?x44r
  case x44y => (intro w hSw; (try dsimp only at hSw); go_simp; try with_reducible rfl)
  try simp only [Act.put, List.setIfInBounds_toArray, List.set_cons_zero, List.set_cons_succ]
  refine wpH_take (i := 17) (some 60) (v := undef) rfl (by kernel_rfl) (by kernel_rfl) (by kernel_rfl) rfl (fun _ _ _ h => h) (Or.inr ⟨by rfl, rfl⟩) hHeld ?x45r
  try simp only [Act.put, List.setIfInBounds_toArray, List.set_cons_zero, List.set_cons_succ]
  refine wpH_take (i := 18) (some 61) (v := undef) rfl (by kernel_rfl) (by kernel_rfl) (by kernel_rfl) rfl (fun _ _ _ h => h) (Or.inr ⟨by rfl, rfl⟩) hHeld ?x46r
  try simp only [Act.put, List.setIfInBounds_toArray, List.set_cons_zero, List.set_cons_succ]
  refine wpH_take (i := 19) (some 62) (v := undef) rfl (by kernel_rfl) (by kernel_rfl) (by kernel_rfl) rfl (fun _ _ _ h => h) (Or.inr ⟨by rfl, rfl⟩) hHeld ?x47r
  try simp only [Act.put, List.setIfInBounds_toArray, List.set_cons_zero, List.set_cons_succ]
  refine wpH_take (i := 20) (some 63) (v := undef) rfl (by kernel_rfl) (by kernel_rfl) (by kernel_rfl) rfl (fun _ _ _ h => h) (Or.inr ⟨by rfl, rfl⟩) hHeld ?x48r
  try simp only [Act.put, List.setIfInBounds_toArray, List.set_cons_zero, List.set_cons_succ]
  refine wpH_take (i := 21) (some 64) (v := undef) rfl (by kernel_rfl) (by kernel_rfl) (by kernel_rfl) rfl (fun _ _ _ h => h) (Or.inr ⟨by rfl, rfl⟩) hHeld ?x49r
  try simp only [Act.put, List.setIfInBounds_toArray, List.set_cons_zero, List.set_cons_succ]
  refine wpH_take (i := 22) (some 65) (v := undef) rfl (by kernel_rfl) (by kernel_rfl) (by kernel_rfl) rfl (fun _ _ _ h => h) (Or.inr ⟨by rfl, rfl⟩) hHeld ?x50r
  try simp only [Act.put, List.setIfInBounds_toArray, List.set_cons_zero, List.set_cons_succ]
  refine wpH_take (i := 23) (some 66) (v := undef) rfl (by kernel_rfl) (by kernel_rfl) (by kernel_rfl) rfl (fun _ _ _ h => h) (Or.inr ⟨by rfl, rfl⟩) hHeld ?x51r
  try simp only [Act.put, List.setIfInBounds_toArray, List.set_cons_zero, List.set_cons_succ]
  refine wpH_take (i := 24) (some 67) (v := ?x52v) rfl (by kernel_rfl) (by kernel_rfl) (by kernel_rfl) rfl (fun _ _ _ h => h) (Or.inl ⟨by rfl, ?x52y⟩) hHeld ?x52r
  case x52y => (intro w hSw; (try dsimp only at hSw); go_simp; try with_reducible rfl)
  try simp only [Act.put, List.setIfInBounds_toArray, List.set_cons_zero, List.set_cons_succ]
  refine wpAnyH_done (by kernel_rfl) ?_ _
  go_wp2
  go_ret
  exact ⟨rfl, BB2.out⟩

set_option linter.unusedSimpArgs false in
set_option linter.unusedVariables false in
set_option maxRecDepth 100000 in
set_option maxHeartbeats 2000000 in
theorem vld_a (vu vg va : Value) (us : List Us) (gs : List Gr) (ks : List Ak) (N D : Int) (w : World) (su : SlU w vu us) (sg : SlG w vg gs) (sa : SlA w va ks) (u70 : us.length ≤ 70) (g70 : gs.length ≤ 70) (k70 : ks.length ≤ 70) (N0 : decide (N < 1) = false) (N1 : decide (60 < N) = false) (D0 : decide (D < 1) = false) (D1 : decide (60 < D) = false) (L0 : decide (24 < (us.length : Int) + (gs.length : Int)) = false) (L1 : decide (24 < (ks.length : Int)) = false) (hs : sndU N D us = true) (hg : sndG N D gs = true) (ha : sndA N D ks = false) : Calls Try.prog 17 #[.agg #[vu, vg, va], .agg #[.int .i64 N, .int .i64 D]] w fun e w' => e = .returned (.bool false) ∧ Below w.heap.size w w' := by
  obtain ⟨pu, cu, e0, hlu, hcu, _⟩ := su.form us.length rfl
  subst e0
  obtain ⟨pg, cg, e0, hlg, hcg, _⟩ := sg.form gs.length rfl
  subst e0
  obtain ⟨pa, ca, e0, hla, hca, _⟩ := sa.form ks.length rfl
  subst e0
  have SU := Lib.hid su
  have SG := Lib.hid sg
  have SA := Lib.hid sa
  clear su sg sa
  have iu0 : (0 : Int) ≤ (us.length : Int) := Int.natCast_nonneg _
  have ig0 : (0 : Int) ≤ (gs.length : Int) := Int.natCast_nonneg _
  have ia0 : (0 : Int) ≤ (ks.length : Int) := Int.natCast_nonneg _
  have iu : (us.length : Int) ≤ 70 := by omega
  have ig : (gs.length : Int) ≤ 70 := by omega
  have ia : (ks.length : Int) ≤ 70 := by omega
  have hmm := @run_makeMap Try.prog
  have hD60 : D ≤ 60 := by have := of_decide_eq_false D1; omega
  have HSU := Lib.hid hs
  have HSG := Lib.hid hg
  have HSA := Lib.hid ha
  clear hs hg ha
  go_enter Try.func17, Try.ntmps17
  go_wp2_with fail
  have OTx := Lib.hid ((((own_at (w := w) [.slice pu us.length cu, .slice pg gs.length cg, .slice pa ks.length ca] 26 rfl).alloc (.cells #[.int .i64 N, .int .i64 D] 28)).alloc (.map #[] 0)))
  have OYx := Lib.hid (((own_at (w := w.alloc (.cells #[.slice pu us.length cu, .slice pg gs.length cg, .slice pa ks.length ca] 26)) (n := w.heap.size + 1) [.int .i64 N, .int .i64 D] 28 (by simp)).alloc (.map #[] 0)))
  have HMx := Lib.hid (cnt_made ((w.alloc (.cells #[.slice pu us.length cu, .slice pg gs.length cg, .slice pa ks.length ca] 26)).alloc (.cells #[.int .i64 N, .int .i64 D] 28)))
  have BBx := Lib.hid ((((Below.refl w.heap.size w).alloc (Nat.le_refl _) (.cells #[.slice pu us.length cu, .slice pg gs.length cg, .slice pa ks.length ca] 26)).alloc (by simp) (.cells #[.int .i64 N, .int .i64 D] 28)).alloc (by simp; omega) (.map #[] 0))
  have SUx := Lib.hid (SU.out.below BBx.out)
  have SGx := Lib.hid (SG.out.below BBx.out)
  have SAx := Lib.hid (SA.out.below BBx.out)
  obtain ⟨B, hB⟩ : ∃ B, ((w.alloc (.cells #[.slice pu us.length cu, .slice pg gs.length cg, .slice pa ks.length ca] 26)).alloc (.cells #[.int .i64 N, .int .i64 D] 28)).heap.size = B := ⟨_, rfl⟩
  have hbw2 : w.heap.size ≤ B := by rw [← hB]; simp; omega
  rw [hB] at HMx
  have hB' : w.heap.size + 1 + 1 = B := by rw [← hB]; simp
  rw [hB']
  have hbw := BBx.out.size
  clear hB hB'
  change Code.wp _ _ _ _ (((w.alloc (.cells #[.slice pu us.length cu, .slice pg gs.length cg, .slice pa ks.length ca] 26)).alloc (.cells #[.int .i64 N, .int .i64 D] 28)).alloc (.map #[] 0))
  generalize ((w.alloc (.cells #[.slice pu us.length cu, .slice pg gs.length cg, .slice pa ks.length ca] 26)).alloc (.cells #[.int .i64 N, .int .i64 D] 28)).alloc (.map #[] 0) = W at OTx OYx HMx BBx SUx SGx SAx hbw ⊢
  have OT0 := Lib.hid (OTx.out.drew)
  have OY0 := Lib.hid (OYx.out.drew)
  have BD := Lib.hid (Below.refl W.heap.size W).drew
  have HM0 := Lib.hid (HMx.out.below BD.out)
  have SU0 := Lib.hid (SUx.out.below BD.out)
  have SG0 := Lib.hid (SGx.out.below BD.out)
  have SA0 := Lib.hid (SAx.out.below BD.out)
  have BB0 := Lib.hid (BBx.out.drew)
  clear OTx OYx HMx BBx SUx SGx SAx BD SU SG SA
  obtain ⟨t0, t1, t2, _, _⟩ := own3 OT0.out
  obtain ⟨y0, y1, _, _⟩ := own2 OY0.out
  refine region_H 25 #[false, false, false, false, false, false, false, false, false, false, false, false, false, false, false, false, false, false, false, false, false, false, false, false, false] (by kernel_rfl) (by kernel_rfl) (fun w' => w'.cell? ⟨w.heap.size, 0, none⟩ = some (.slice pu us.length cu) ∧ w'.cell? ⟨w.heap.size, 1, none⟩ = some (.slice pg gs.length cg) ∧ w'.cell? ⟨w.heap.size, 2, none⟩ = some (.slice pa ks.length ca) ∧ w'.cell? ⟨w.heap.size + 1, 0, none⟩ = some (.int .i64 N) ∧ w'.cell? ⟨w.heap.size + 1, 1, none⟩ = some (.int .i64 D)) (by kernel_rfl) ?x53s (fun hHeld => ?x53r)
  case x53s => exact ⟨t0, t1, t2, y0, y1⟩
  refine wpH_take (i := 0) (some 43) (v := ?x54v) rfl (by kernel_rfl) (by kernel_rfl) (by kernel_rfl) rfl (fun _ _ _ h => h) (Or.inl ⟨by rfl, ?x54y⟩) hHeld ?x54r
  case x54y => (intro w hSw; (try dsimp only at hSw); go_simp; try with_reducible rfl)
  try simp only [Act.put, List.setIfInBounds_toArray, List.set_cons_zero, List.set_cons_succ]
  refine wpH_take (i := 1) (some 44) (v := ?x55v) rfl (by kernel_rfl) (by kernel_rfl) (by kernel_rfl) rfl (fun _ _ _ h => h) (Or.inl ⟨by rfl, ?x55y⟩) hHeld ?x55r
  case x55y => (intro w hSw; (try dsimp only at hSw); go_simp; try with_reducible rfl)
  try simp only [Act.put, List.setIfInBounds_toArray, List.set_cons_zero, List.set_cons_succ]
  refine wpH_take (i := 3) (some 46) (v := ?x56v) rfl (by kernel_rfl) (by kernel_rfl) (by kernel_rfl) rfl (fun _ _ _ h => h) (Or.inl ⟨by rfl, ?x56y⟩) hHeld ?x56r
  case x56y => (intro w hSw; (try dsimp only at hSw); go_simp; try with_reducible rfl)
  try simp only [Act.put, List.setIfInBounds_toArray, List.set_cons_zero, List.set_cons_succ]
  refine wpH_take (i := 4) (some 47) (v := ?x57v) rfl (by kernel_rfl) (by kernel_rfl) (by kernel_rfl) rfl (fun _ _ _ h => h) (Or.inl ⟨by rfl, ?x57y⟩) hHeld ?x57r
  case x57y => (intro w hSw; (try dsimp only at hSw); go_simp; try with_reducible rfl)
  try simp only [Act.put, List.setIfInBounds_toArray, List.set_cons_zero, List.set_cons_succ]
  refine wpH_one (i := 2) (by kernel_rfl) rfl (fun K hK => ?_)
  rw [if_pos (by rfl)]
  go_simp
  refine (uent_any _ us _ SU0.out (by omega)).mono ?_
  rintro e wa0 ⟨v0, rfl, hsl, hb⟩
  have E0 := Lib.hid (hsl)
  have OTa0 := Lib.hid (OT0.out.below hb)
  have OYa0 := Lib.hid (OY0.out.below hb)
  have HMa0 := Lib.hid (HM0.out.below hb)
  have BA0 := Lib.hid (belowTo BB0.out hb BB0.out.size)
  have SGa0 := Lib.hid (SG0.out.below hb)
  have SAa0 := Lib.hid (SA0.out.below hb)
  clear hsl hb
  obtain ⟨p0, c0, f0, _, _, _⟩ := E0.out.form us.length rfl
  subst f0
  obtain ⟨a00, a01, a02, _, _⟩ := own3 OTa0.out
  obtain ⟨a03, a04, _, _⟩ := own2 OYa0.out
  refine hK.out _ _ (⟨a00, a01, a02, a03, a04⟩) ?_
  clear hK K hHeld
  intro hHeld
  try simp only [Act.put, List.setIfInBounds_toArray, List.set_cons_zero, List.set_cons_succ]
  refine wpH_one (i := 5) (by kernel_rfl) rfl (fun K hK => ?_)
  rw [if_pos (by rfl)]
  go_simp
  refine (usnd_lit _ us N D B 0 ([] : List Int) true _ E0.out HMa0.out HMa0.out.lt (by first | omega | (simp; omega)) (by first | omega | (simp; omega)) hD60 HSU.out).mono ?_
  rintro e wb0 ⟨rfl, hg, hcnt⟩
  have OT1 := Lib.hid (OTa0.out.grown HMa0.out hg)
  have OY1 := Lib.hid (OYa0.out.grown HMa0.out hg)
  have BB1 := Lib.hid (BA0.out.grown hg BA0.out.size (fun k hk => by cases hk; exact hbw2))
  have SG1 := Lib.hid (SGa0.out.grown HMa0.out hg)
  have SA1 := Lib.hid (SAa0.out.grown HMa0.out hg)
  have HM1 := Lib.hid (hcnt rfl)
  clear hg hcnt
  obtain ⟨b00, b01, b02, _, _⟩ := own3 OT1.out
  obtain ⟨b03, b04, _, _⟩ := own2 OY1.out
  refine hK.out _ _ (⟨b00, b01, b02, b03, b04⟩) ?_
  clear hK K hHeld
  intro hHeld
  try simp only [Act.put, List.setIfInBounds_toArray, List.set_cons_zero, List.set_cons_succ]
  refine wpH_take (i := 6) (some 49) (v := ?x60v) rfl (by kernel_rfl) (by kernel_rfl) (by kernel_rfl) rfl (fun _ _ _ h => h) (Or.inl ⟨by rfl, ?x60y⟩) hHeld ?x60r
  case x60y => (intro w hSw; (try dsimp only at hSw); go_simp; try with_reducible rfl)
  try simp only [Act.put, List.setIfInBounds_toArray, List.set_cons_zero, List.set_cons_succ]
  refine wpH_take (i := 7) (some 50) (v := ?x61v) rfl (by kernel_rfl) (by kernel_rfl) (by kernel_rfl) rfl (fun _ _ _ h => h) (Or.inl ⟨by rfl, ?x61y⟩) hHeld ?x61r
  case x61y => (intro w hSw; (try dsimp only at hSw); go_simp; try with_reducible rfl)
  try simp only [Act.put, List.setIfInBounds_toArray, List.set_cons_zero, List.set_cons_succ]
  refine wpH_take (i := 8) (some 51) (v := ?x62v) rfl (by kernel_rfl) (by kernel_rfl) (by kernel_rfl) rfl (fun _ _ _ h => h) (Or.inl ⟨by rfl, ?x62y⟩) hHeld ?x62r
  case x62y => (intro w hSw; (try dsimp only at hSw); go_simp; try with_reducible rfl)
  try simp only [Act.put, List.setIfInBounds_toArray, List.set_cons_zero, List.set_cons_succ]
  refine wpH_take (i := 9) (some 52) (v := ?x63v) rfl (by kernel_rfl) (by kernel_rfl) (by kernel_rfl) rfl (fun _ _ _ h => h) (Or.inl ⟨by rfl, ?x63y⟩) hHeld ?x63r
  case x63y => (intro w hSw; (try dsimp only at hSw); go_simp; try with_reducible rfl)
  try simp only [Act.put, List.setIfInBounds_toArray, List.set_cons_zero, List.set_cons_succ]
  refine wpH_take (i := 11) (some 54) (v := ?x64v) rfl (by kernel_rfl) (by kernel_rfl) (by kernel_rfl) rfl (fun _ _ _ h => h) (Or.inl ⟨by rfl, ?x64y⟩) hHeld ?x64r
  case x64y => (intro w hSw; (try dsimp only at hSw); go_simp; try with_reducible rfl)
  try simp only [Act.put, List.setIfInBounds_toArray, List.set_cons_zero, List.set_cons_succ]
  refine wpH_take (i := 12) (some 55) (v := ?x65v) rfl (by kernel_rfl) (by kernel_rfl) (by kernel_rfl) rfl (fun _ _ _ h => h) (Or.inl ⟨by rfl, ?x65y⟩) hHeld ?x65r
  case x65y => (intro w hSw; (try dsimp only at hSw); go_simp; try with_reducible rfl)
  try simp only [Act.put, List.setIfInBounds_toArray, List.set_cons_zero, List.set_cons_succ]
  refine wpH_one (i := 10) (by kernel_rfl) rfl (fun K hK => ?_)
  rw [if_pos (by rfl)]
  go_simp
  refine (gent_any _ gs _ SG1.out (by omega)).mono ?_
  rintro e wa1 ⟨v1, rfl, hsl, hb⟩
  have E1 := Lib.hid (hsl)
  have OTa1 := Lib.hid (OT1.out.below hb)
  have OYa1 := Lib.hid (OY1.out.below hb)
  have HMa1 := Lib.hid (HM1.out.below hb)
  have BA1 := Lib.hid (belowTo BB1.out hb BB1.out.size)
  have SAa1 := Lib.hid (SA1.out.below hb)
  clear hsl hb
  obtain ⟨p1, c1, f0, _, _, _⟩ := E1.out.form gs.length rfl
  subst f0
  obtain ⟨a10, a11, a12, _, _⟩ := own3 OTa1.out
  obtain ⟨a13, a14, _, _⟩ := own2 OYa1.out
  refine hK.out _ _ (⟨a10, a11, a12, a13, a14⟩) ?_
  clear hK K hHeld
  intro hHeld
  try simp only [Act.put, List.setIfInBounds_toArray, List.set_cons_zero, List.set_cons_succ]
  refine wpH_one (i := 13) (by kernel_rfl) rfl (fun K hK => ?_)
  rw [if_pos (by rfl)]
  go_simp
  refine (gsnd_lit _ gs N D B (0 + (us.map Us.s).length) ([] ++ us.map Us.s) true _ E1.out HMa1.out HMa1.out.lt (by first | omega | (simp; omega)) (by first | omega | (simp; omega)) hD60 HSG.out).mono ?_
  rintro e wb1 ⟨rfl, hg, hcnt⟩
  have OT2 := Lib.hid (OTa1.out.grown HMa1.out hg)
  have OY2 := Lib.hid (OYa1.out.grown HMa1.out hg)
  have BB2 := Lib.hid (BA1.out.grown hg BA1.out.size (fun k hk => by cases hk; exact hbw2))
  have SA2 := Lib.hid (SAa1.out.grown HMa1.out hg)
  have HM2 := Lib.hid (hcnt rfl)
  clear hg hcnt
  obtain ⟨b10, b11, b12, _, _⟩ := own3 OT2.out
  obtain ⟨b13, b14, _, _⟩ := own2 OY2.out
  refine hK.out _ _ (⟨b10, b11, b12, b13, b14⟩) ?_
  clear hK K hHeld
  intro hHeld
  try simp only [Act.put, List.setIfInBounds_toArray, List.set_cons_zero, List.set_cons_succ]
  refine wpH_take (i := 14) (some 57) (v := ?x68v) rfl (by kernel_rfl) (by kernel_rfl) (by kernel_rfl) rfl (fun _ _ _ h => h) (Or.inl ⟨by rfl, ?x68y⟩) hHeld ?x68r
  case x68y => (intro w hSw; (try dsimp only at hSw); go_simp; try with_reducible rfl)
  try simp only [Act.put, List.setIfInBounds_toArray, List.set_cons_zero, List.set_cons_succ]
  refine wpH_take (i := 15) (some 58) (v := ?x69v) rfl (by kernel_rfl) (by kernel_rfl) (by kernel_rfl) rfl (fun _ _ _ h => h) (Or.inl ⟨by rfl, ?x69y⟩) hHeld ?x69r
  case x69y => (intro w hSw; (try dsimp only at hSw); go_simp; try with_reducible rfl)
  try simp only [Act.put, List.setIfInBounds_toArray, List.set_cons_zero, List.set_cons_succ]
  refine wpH_take (i := 16) (some 59) (v := ?x70v) rfl (by kernel_rfl) (by kernel_rfl) (by kernel_rfl) rfl (fun _ _ _ h => h) (Or.inl ⟨by rfl, ?x70y⟩) hHeld ?x70r
  case x70y => (intro w hSw; (try dsimp only at hSw); go_simp; try with_reducible rfl)
  try simp only [Act.put, List.setIfInBounds_toArray, List.set_cons_zero, List.set_cons_succ]
  refine wpH_take (i := 17) (some 60) (v := ?x71v) rfl (by kernel_rfl) (by kernel_rfl) (by kernel_rfl) rfl (fun _ _ _ h => h) (Or.inl ⟨by rfl, ?x71y⟩) hHeld ?x71r
  case x71y => (intro w hSw; (try dsimp only at hSw); go_simp; try with_reducible rfl)
  try simp only [Act.put, List.setIfInBounds_toArray, List.set_cons_zero, List.set_cons_succ]
  refine wpH_take (i := 18) (some 61) (v := ?x72v) rfl (by kernel_rfl) (by kernel_rfl) (by kernel_rfl) rfl (fun _ _ _ h => h) (Or.inl ⟨by rfl, ?x72y⟩) hHeld ?x72r
  case x72y => (intro w hSw; (try dsimp only at hSw); go_simp; try with_reducible rfl)
  try simp only [Act.put, List.setIfInBounds_toArray, List.set_cons_zero, List.set_cons_succ]
  refine wpH_take (i := 20) (some 63) (v := ?x73v) rfl (by kernel_rfl) (by kernel_rfl) (by kernel_rfl) rfl (fun _ _ _ h => h) (Or.inl ⟨by rfl, ?x73y⟩) hHeld ?x73r
  case x73y => (intro w hSw; (try dsimp only at hSw); go_simp; try with_reducible rfl)
  try simp only [Act.put, List.setIfInBounds_toArray, List.set_cons_zero, List.set_cons_succ]
  refine wpH_take (i := 21) (some 64) (v := ?x74v) rfl (by kernel_rfl) (by kernel_rfl) (by kernel_rfl) rfl (fun _ _ _ h => h) (Or.inl ⟨by rfl, ?x74y⟩) hHeld ?x74r
  case x74y => (intro w hSw; (try dsimp only at hSw); go_simp; try with_reducible rfl)
  try simp only [Act.put, List.setIfInBounds_toArray, List.set_cons_zero, List.set_cons_succ]
  refine wpH_one (i := 19) (by kernel_rfl) rfl (fun K hK => ?_)
  rw [if_pos (by rfl)]
  go_simp
  refine (aent_any _ ks _ SA2.out (by omega)).mono ?_
  rintro e wa2 ⟨v2, rfl, hsl, hb⟩
  have E2 := Lib.hid (hsl)
  have OTa2 := Lib.hid (OT2.out.below hb)
  have OYa2 := Lib.hid (OY2.out.below hb)
  have HMa2 := Lib.hid (HM2.out.below hb)
  have BA2 := Lib.hid (belowTo BB2.out hb BB2.out.size)
  clear hsl hb
  obtain ⟨p2, c2, f0, _, _, _⟩ := E2.out.form ks.length rfl
  subst f0
  obtain ⟨a20, a21, a22, _, _⟩ := own3 OTa2.out
  obtain ⟨a23, a24, _, _⟩ := own2 OYa2.out
  refine hK.out _ _ (⟨a20, a21, a22, a23, a24⟩) ?_
  clear hK K hHeld
  intro hHeld
  try simp only [Act.put, List.setIfInBounds_toArray, List.set_cons_zero, List.set_cons_succ]
  refine wpH_one (i := 22) (by kernel_rfl) rfl (fun K hK => ?_)
  rw [if_pos (by rfl)]
  go_simp
  refine (asnd_lit _ ks N D B (0 + (us.map Us.s).length + (gs.map Gr.s).length) ([] ++ us.map Us.s ++ gs.map Gr.s) false _ E2.out HMa2.out HMa2.out.lt (by first | omega | (simp; omega)) (by first | omega | (simp; omega)) hD60 HSA.out).mono ?_
  rintro e wb2 ⟨rfl, hg, hcnt⟩
  have OT3 := Lib.hid (OTa2.out.grown HMa2.out hg)
  have OY3 := Lib.hid (OYa2.out.grown HMa2.out hg)
  have BB3 := Lib.hid (BA2.out.grown hg BA2.out.size (fun k hk => by cases hk; exact hbw2))
  clear hg hcnt
  obtain ⟨b20, b21, b22, _, _⟩ := own3 OT3.out
  obtain ⟨b23, b24, _, _⟩ := own2 OY3.out
  refine hK.out _ _ (⟨b20, b21, b22, b23, b24⟩) ?_
  clear hK K hHeld
  intro hHeld
  try simp only [Act.put, List.setIfInBounds_toArray, List.set_cons_zero, List.set_cons_succ]
  refine wpH_take (i := 23) (some 66) (v := ?x77v) rfl (by kernel_rfl) (by kernel_rfl) (by kernel_rfl) rfl (fun _ _ _ h => h) (Or.inl ⟨by rfl, ?x77y⟩) hHeld ?x77r
  case x77y => (intro w hSw; (try dsimp only at hSw); go_simp; try with_reducible rfl)
  try simp only [Act.put, List.setIfInBounds_toArray, List.set_cons_zero, List.set_cons_succ]
  refine wpH_take (i := 24) (some 67) (v := ?x78v) rfl (by kernel_rfl) (by kernel_rfl) (by kernel_rfl) rfl (fun _ _ _ h => h) (Or.inl ⟨by rfl, ?x78y⟩) hHeld ?x78r
  case x78y => (intro w hSw; (try dsimp only at hSw); go_simp; try with_reducible rfl)
  try simp only [Act.put, List.setIfInBounds_toArray, List.set_cons_zero, List.set_cons_succ]
  refine wpAnyH_done (by kernel_rfl) ?_ _
  go_wp2
  go_ret
  exact ⟨rfl, BB3.out⟩

set_option linter.unusedSimpArgs false in
set_option linter.unusedVariables false in
set_option maxRecDepth 100000 in
set_option maxHeartbeats 2000000 in
theorem vld_ok (vu vg va : Value) (us : List Us) (gs : List Gr) (ks : List Ak) (N D : Int) (w : World) (su : SlU w vu us) (sg : SlG w vg gs) (sa : SlA w va ks) (u70 : us.length ≤ 70) (g70 : gs.length ≤ 70) (k70 : ks.length ≤ 70) (N0 : decide (N < 1) = false) (N1 : decide (60 < N) = false) (D0 : decide (D < 1) = false) (D1 : decide (60 < D) = false) (L0 : decide (24 < (us.length : Int) + (gs.length : Int)) = false) (L1 : decide (24 < (ks.length : Int)) = false) (hs : sndU N D us = true) (hg : sndG N D gs = true) (ha : sndA N D ks = true) : Calls Try.prog 17 #[.agg #[vu, vg, va], .agg #[.int .i64 N, .int .i64 D]] w fun e w' => e = .returned (.bool (oneB us gs ks)) ∧ Below w.heap.size w w' := by
  obtain ⟨pu, cu, e0, hlu, hcu, _⟩ := su.form us.length rfl
  subst e0
  obtain ⟨pg, cg, e0, hlg, hcg, _⟩ := sg.form gs.length rfl
  subst e0
  obtain ⟨pa, ca, e0, hla, hca, _⟩ := sa.form ks.length rfl
  subst e0
  have SU := Lib.hid su
  have SG := Lib.hid sg
  have SA := Lib.hid sa
  clear su sg sa
  have iu0 : (0 : Int) ≤ (us.length : Int) := Int.natCast_nonneg _
  have ig0 : (0 : Int) ≤ (gs.length : Int) := Int.natCast_nonneg _
  have ia0 : (0 : Int) ≤ (ks.length : Int) := Int.natCast_nonneg _
  have iu : (us.length : Int) ≤ 70 := by omega
  have ig : (gs.length : Int) ≤ 70 := by omega
  have ia : (ks.length : Int) ≤ 70 := by omega
  have hmm := @run_makeMap Try.prog
  have hD60 : D ≤ 60 := by have := of_decide_eq_false D1; omega
  have HSU := Lib.hid hs
  have HSG := Lib.hid hg
  have HSA := Lib.hid ha
  clear hs hg ha
  go_enter Try.func17, Try.ntmps17
  go_wp2_with fail
  have OTx := Lib.hid ((((own_at (w := w) [.slice pu us.length cu, .slice pg gs.length cg, .slice pa ks.length ca] 26 rfl).alloc (.cells #[.int .i64 N, .int .i64 D] 28)).alloc (.map #[] 0)))
  have OYx := Lib.hid (((own_at (w := w.alloc (.cells #[.slice pu us.length cu, .slice pg gs.length cg, .slice pa ks.length ca] 26)) (n := w.heap.size + 1) [.int .i64 N, .int .i64 D] 28 (by simp)).alloc (.map #[] 0)))
  have HMx := Lib.hid (cnt_made ((w.alloc (.cells #[.slice pu us.length cu, .slice pg gs.length cg, .slice pa ks.length ca] 26)).alloc (.cells #[.int .i64 N, .int .i64 D] 28)))
  have BBx := Lib.hid ((((Below.refl w.heap.size w).alloc (Nat.le_refl _) (.cells #[.slice pu us.length cu, .slice pg gs.length cg, .slice pa ks.length ca] 26)).alloc (by simp) (.cells #[.int .i64 N, .int .i64 D] 28)).alloc (by simp; omega) (.map #[] 0))
  have SUx := Lib.hid (SU.out.below BBx.out)
  have SGx := Lib.hid (SG.out.below BBx.out)
  have SAx := Lib.hid (SA.out.below BBx.out)
  obtain ⟨B, hB⟩ : ∃ B, ((w.alloc (.cells #[.slice pu us.length cu, .slice pg gs.length cg, .slice pa ks.length ca] 26)).alloc (.cells #[.int .i64 N, .int .i64 D] 28)).heap.size = B := ⟨_, rfl⟩
  have hbw2 : w.heap.size ≤ B := by rw [← hB]; simp; omega
  rw [hB] at HMx
  have hB' : w.heap.size + 1 + 1 = B := by rw [← hB]; simp
  rw [hB']
  have hbw := BBx.out.size
  clear hB hB'
  change Code.wp _ _ _ _ (((w.alloc (.cells #[.slice pu us.length cu, .slice pg gs.length cg, .slice pa ks.length ca] 26)).alloc (.cells #[.int .i64 N, .int .i64 D] 28)).alloc (.map #[] 0))
  generalize ((w.alloc (.cells #[.slice pu us.length cu, .slice pg gs.length cg, .slice pa ks.length ca] 26)).alloc (.cells #[.int .i64 N, .int .i64 D] 28)).alloc (.map #[] 0) = W at OTx OYx HMx BBx SUx SGx SAx hbw ⊢
  have OT0 := Lib.hid (OTx.out.drew)
  have OY0 := Lib.hid (OYx.out.drew)
  have BD := Lib.hid (Below.refl W.heap.size W).drew
  have HM0 := Lib.hid (HMx.out.below BD.out)
  have SU0 := Lib.hid (SUx.out.below BD.out)
  have SG0 := Lib.hid (SGx.out.below BD.out)
  have SA0 := Lib.hid (SAx.out.below BD.out)
  have BB0 := Lib.hid (BBx.out.drew)
  clear OTx OYx HMx BBx SUx SGx SAx BD SU SG SA
  obtain ⟨t0, t1, t2, _, _⟩ := own3 OT0.out
  obtain ⟨y0, y1, _, _⟩ := own2 OY0.out
  refine region_H 25 #[false, false, false, false, false, false, false, false, false, false, false, false, false, false, false, false, false, false, false, false, false, false, false, false, false] (by kernel_rfl) (by kernel_rfl) (fun w' => w'.cell? ⟨w.heap.size, 0, none⟩ = some (.slice pu us.length cu) ∧ w'.cell? ⟨w.heap.size, 1, none⟩ = some (.slice pg gs.length cg) ∧ w'.cell? ⟨w.heap.size, 2, none⟩ = some (.slice pa ks.length ca) ∧ w'.cell? ⟨w.heap.size + 1, 0, none⟩ = some (.int .i64 N) ∧ w'.cell? ⟨w.heap.size + 1, 1, none⟩ = some (.int .i64 D)) (by kernel_rfl) ?x79s (fun hHeld => ?x79r)
  case x79s => exact ⟨t0, t1, t2, y0, y1⟩
  refine wpH_take (i := 0) (some 43) (v := ?x80v) rfl (by kernel_rfl) (by kernel_rfl) (by kernel_rfl) rfl (fun _ _ _ h => h) (Or.inl ⟨by rfl, ?x80y⟩) hHeld ?x80r
  case x80y => (intro w hSw; (try dsimp only at hSw); go_simp; try with_reducible rfl)
  try simp only [Act.put, List.setIfInBounds_toArray, List.set_cons_zero, List.set_cons_succ]
  refine wpH_take (i := 1) (some 44) (v := ?x81v) rfl (by kernel_rfl) (by kernel_rfl) (by kernel_rfl) rfl (fun _ _ _ h => h) (Or.inl ⟨by rfl, ?x81y⟩) hHeld ?x81r
  case x81y => (intro w hSw; (try dsimp only at hSw); go_simp; try with_reducible rfl)
  try simp only [Act.put, List.setIfInBounds_toArray, List.set_cons_zero, List.set_cons_succ]
  refine wpH_take (i := 3) (some 46) (v := ?x82v) rfl (by kernel_rfl) (by kernel_rfl) (by kernel_rfl) rfl (fun _ _ _ h => h) (Or.inl ⟨by rfl, ?x82y⟩) hHeld ?x82r
  case x82y => (intro w hSw; (try dsimp only at hSw); go_simp; try with_reducible rfl)
  try simp only [Act.put, List.setIfInBounds_toArray, List.set_cons_zero, List.set_cons_succ]
  refine wpH_take (i := 4) (some 47) (v := ?x83v) rfl (by kernel_rfl) (by kernel_rfl) (by kernel_rfl) rfl (fun _ _ _ h => h) (Or.inl ⟨by rfl, ?x83y⟩) hHeld ?x83r
  case x83y => (intro w hSw; (try dsimp only at hSw); go_simp; try with_reducible rfl)
  try simp only [Act.put, List.setIfInBounds_toArray, List.set_cons_zero, List.set_cons_succ]
  refine wpH_one (i := 2) (by kernel_rfl) rfl (fun K hK => ?_)
  rw [if_pos (by rfl)]
  go_simp
  refine (uent_any _ us _ SU0.out (by omega)).mono ?_
  rintro e wa0 ⟨v0, rfl, hsl, hb⟩
  have E0 := Lib.hid (hsl)
  have OTa0 := Lib.hid (OT0.out.below hb)
  have OYa0 := Lib.hid (OY0.out.below hb)
  have HMa0 := Lib.hid (HM0.out.below hb)
  have BA0 := Lib.hid (belowTo BB0.out hb BB0.out.size)
  have SGa0 := Lib.hid (SG0.out.below hb)
  have SAa0 := Lib.hid (SA0.out.below hb)
  clear hsl hb
  obtain ⟨p0, c0, f0, _, _, _⟩ := E0.out.form us.length rfl
  subst f0
  obtain ⟨a00, a01, a02, _, _⟩ := own3 OTa0.out
  obtain ⟨a03, a04, _, _⟩ := own2 OYa0.out
  refine hK.out _ _ (⟨a00, a01, a02, a03, a04⟩) ?_
  clear hK K hHeld
  intro hHeld
  try simp only [Act.put, List.setIfInBounds_toArray, List.set_cons_zero, List.set_cons_succ]
  refine wpH_one (i := 5) (by kernel_rfl) rfl (fun K hK => ?_)
  rw [if_pos (by rfl)]
  go_simp
  refine (usnd_lit _ us N D B 0 ([] : List Int) true _ E0.out HMa0.out HMa0.out.lt (by first | omega | (simp; omega)) (by first | omega | (simp; omega)) hD60 HSU.out).mono ?_
  rintro e wb0 ⟨rfl, hg, hcnt⟩
  have OT1 := Lib.hid (OTa0.out.grown HMa0.out hg)
  have OY1 := Lib.hid (OYa0.out.grown HMa0.out hg)
  have BB1 := Lib.hid (BA0.out.grown hg BA0.out.size (fun k hk => by cases hk; exact hbw2))
  have SG1 := Lib.hid (SGa0.out.grown HMa0.out hg)
  have SA1 := Lib.hid (SAa0.out.grown HMa0.out hg)
  have HM1 := Lib.hid (hcnt rfl)
  clear hg hcnt
  obtain ⟨b00, b01, b02, _, _⟩ := own3 OT1.out
  obtain ⟨b03, b04, _, _⟩ := own2 OY1.out
  refine hK.out _ _ (⟨b00, b01, b02, b03, b04⟩) ?_
  clear hK K hHeld
  intro hHeld
  try simp only [Act.put, List.setIfInBounds_toArray, List.set_cons_zero, List.set_cons_succ]
  refine wpH_take (i := 6) (some 49) (v := ?x86v) rfl (by kernel_rfl) (by kernel_rfl) (by kernel_rfl) rfl (fun _ _ _ h => h) (Or.inl ⟨by rfl, ?x86y⟩) hHeld ?x86r
  case x86y => (intro w hSw; (try dsimp only at hSw); go_simp; try with_reducible rfl)
  try simp only [Act.put, List.setIfInBounds_toArray, List.set_cons_zero, List.set_cons_succ]
  refine wpH_take (i := 7) (some 50) (v := ?x87v) rfl (by kernel_rfl) (by kernel_rfl) (by kernel_rfl) rfl (fun _ _ _ h => h) (Or.inl ⟨by rfl, ?x87y⟩) hHeld ?x87r
  case x87y => (intro w hSw; (try dsimp only at hSw); go_simp; try with_reducible rfl)
  try simp only [Act.put, List.setIfInBounds_toArray, List.set_cons_zero, List.set_cons_succ]
  refine wpH_take (i := 8) (some 51) (v := ?x88v) rfl (by kernel_rfl) (by kernel_rfl) (by kernel_rfl) rfl (fun _ _ _ h => h) (Or.inl ⟨by rfl, ?x88y⟩) hHeld ?x88r
  case x88y => (intro w hSw; (try dsimp only at hSw); go_simp; try with_reducible rfl)
  try simp only [Act.put, List.setIfInBounds_toArray, List.set_cons_zero, List.set_cons_succ]
  refine wpH_take (i := 9) (some 52) (v := ?x89v) rfl (by kernel_rfl) (by kernel_rfl) (by kernel_rfl) rfl (fun _ _ _ h => h) (Or.inl ⟨by rfl, ?x89y⟩) hHeld ?x89r
  case x89y => (intro w hSw; (try dsimp only at hSw); go_simp; try with_reducible rfl)
  try simp only [Act.put, List.setIfInBounds_toArray, List.set_cons_zero, List.set_cons_succ]
  refine wpH_take (i := 11) (some 54) (v := ?x90v) rfl (by kernel_rfl) (by kernel_rfl) (by kernel_rfl) rfl (fun _ _ _ h => h) (Or.inl ⟨by rfl, ?x90y⟩) hHeld ?x90r
  case x90y => (intro w hSw; (try dsimp only at hSw); go_simp; try with_reducible rfl)
  try simp only [Act.put, List.setIfInBounds_toArray, List.set_cons_zero, List.set_cons_succ]
  refine wpH_take (i := 12) (some 55) (v := ?x91v) rfl (by kernel_rfl) (by kernel_rfl) (by kernel_rfl) rfl (fun _ _ _ h => h) (Or.inl ⟨by rfl, ?x91y⟩) hHeld ?x91r
  case x91y => (intro w hSw; (try dsimp only at hSw); go_simp; try with_reducible rfl)
  try simp only [Act.put, List.setIfInBounds_toArray, List.set_cons_zero, List.set_cons_succ]
  refine wpH_one (i := 10) (by kernel_rfl) rfl (fun K hK => ?_)
  rw [if_pos (by rfl)]
  go_simp
  refine (gent_any _ gs _ SG1.out (by omega)).mono ?_
  rintro e wa1 ⟨v1, rfl, hsl, hb⟩
  have E1 := Lib.hid (hsl)
  have OTa1 := Lib.hid (OT1.out.below hb)
  have OYa1 := Lib.hid (OY1.out.below hb)
  have HMa1 := Lib.hid (HM1.out.below hb)
  have BA1 := Lib.hid (belowTo BB1.out hb BB1.out.size)
  have SAa1 := Lib.hid (SA1.out.below hb)
  clear hsl hb
  obtain ⟨p1, c1, f0, _, _, _⟩ := E1.out.form gs.length rfl
  subst f0
  obtain ⟨a10, a11, a12, _, _⟩ := own3 OTa1.out
  obtain ⟨a13, a14, _, _⟩ := own2 OYa1.out
  refine hK.out _ _ (⟨a10, a11, a12, a13, a14⟩) ?_
  clear hK K hHeld
  intro hHeld
  try simp only [Act.put, List.setIfInBounds_toArray, List.set_cons_zero, List.set_cons_succ]
  refine wpH_one (i := 13) (by kernel_rfl) rfl (fun K hK => ?_)
  rw [if_pos (by rfl)]
  go_simp
  refine (gsnd_lit _ gs N D B (0 + (us.map Us.s).length) ([] ++ us.map Us.s) true _ E1.out HMa1.out HMa1.out.lt (by first | omega | (simp; omega)) (by first | omega | (simp; omega)) hD60 HSG.out).mono ?_
  rintro e wb1 ⟨rfl, hg, hcnt⟩
  have OT2 := Lib.hid (OTa1.out.grown HMa1.out hg)
  have OY2 := Lib.hid (OYa1.out.grown HMa1.out hg)
  have BB2 := Lib.hid (BA1.out.grown hg BA1.out.size (fun k hk => by cases hk; exact hbw2))
  have SA2 := Lib.hid (SAa1.out.grown HMa1.out hg)
  have HM2 := Lib.hid (hcnt rfl)
  clear hg hcnt
  obtain ⟨b10, b11, b12, _, _⟩ := own3 OT2.out
  obtain ⟨b13, b14, _, _⟩ := own2 OY2.out
  refine hK.out _ _ (⟨b10, b11, b12, b13, b14⟩) ?_
  clear hK K hHeld
  intro hHeld
  try simp only [Act.put, List.setIfInBounds_toArray, List.set_cons_zero, List.set_cons_succ]
  refine wpH_take (i := 14) (some 57) (v := ?x94v) rfl (by kernel_rfl) (by kernel_rfl) (by kernel_rfl) rfl (fun _ _ _ h => h) (Or.inl ⟨by rfl, ?x94y⟩) hHeld ?x94r
  case x94y => (intro w hSw; (try dsimp only at hSw); go_simp; try with_reducible rfl)
  try simp only [Act.put, List.setIfInBounds_toArray, List.set_cons_zero, List.set_cons_succ]
  refine wpH_take (i := 15) (some 58) (v := ?x95v) rfl (by kernel_rfl) (by kernel_rfl) (by kernel_rfl) rfl (fun _ _ _ h => h) (Or.inl ⟨by rfl, ?x95y⟩) hHeld ?x95r
  case x95y => (intro w hSw; (try dsimp only at hSw); go_simp; try with_reducible rfl)
  try simp only [Act.put, List.setIfInBounds_toArray, List.set_cons_zero, List.set_cons_succ]
  refine wpH_take (i := 16) (some 59) (v := ?x96v) rfl (by kernel_rfl) (by kernel_rfl) (by kernel_rfl) rfl (fun _ _ _ h => h) (Or.inl ⟨by rfl, ?x96y⟩) hHeld ?x96r
  case x96y => (intro w hSw; (try dsimp only at hSw); go_simp; try with_reducible rfl)
  try simp only [Act.put, List.setIfInBounds_toArray, List.set_cons_zero, List.set_cons_succ]
  refine wpH_take (i := 17) (some 60) (v := ?x97v) rfl (by kernel_rfl) (by kernel_rfl) (by kernel_rfl) rfl (fun _ _ _ h => h) (Or.inl ⟨by rfl, ?x97y⟩) hHeld ?x97r
  case x97y => (intro w hSw; (try dsimp only at hSw); go_simp; try with_reducible rfl)
  try simp only [Act.put, List.setIfInBounds_toArray, List.set_cons_zero, List.set_cons_succ]
  refine wpH_take (i := 18) (some 61) (v := ?x98v) rfl (by kernel_rfl) (by kernel_rfl) (by kernel_rfl) rfl (fun _ _ _ h => h) (Or.inl ⟨by rfl, ?x98y⟩) hHeld ?x98r
  case x98y => (intro w hSw; (try dsimp only at hSw); go_simp; try with_reducible rfl)
  try simp only [Act.put, List.setIfInBounds_toArray, List.set_cons_zero, List.set_cons_succ]
  refine wpH_take (i := 20) (some 63) (v := ?x99v) rfl (by kernel_rfl) (by kernel_rfl) (by kernel_rfl) rfl (fun _ _ _ h => h) (Or.inl ⟨by rfl, ?x99y⟩) hHeld ?x99r
  case x99y => (intro w hSw; (try dsimp only at hSw); go_simp; try with_reducible rfl)
  try simp only [Act.put, List.setIfInBounds_toArray, List.set_cons_zero, List.set_cons_succ]
  refine wpH_take (i := 21) (some 64) (v := ?x100v) rfl (by kernel_rfl) (by kernel_rfl) (by kernel_rfl) rfl (fun _ _ _ h => h) (Or.inl ⟨by rfl, ?x100y⟩) hHeld ?x100r
  case x100y => (intro w hSw; (try dsimp only at hSw); go_simp; try with_reducible rfl)
  try simp only [Act.put, List.setIfInBounds_toArray, List.set_cons_zero, List.set_cons_succ]
  refine wpH_one (i := 19) (by kernel_rfl) rfl (fun K hK => ?_)
  rw [if_pos (by rfl)]
  go_simp
  refine (aent_any _ ks _ SA2.out (by omega)).mono ?_
  rintro e wa2 ⟨v2, rfl, hsl, hb⟩
  have E2 := Lib.hid (hsl)
  have OTa2 := Lib.hid (OT2.out.below hb)
  have OYa2 := Lib.hid (OY2.out.below hb)
  have HMa2 := Lib.hid (HM2.out.below hb)
  have BA2 := Lib.hid (belowTo BB2.out hb BB2.out.size)
  clear hsl hb
  obtain ⟨p2, c2, f0, _, _, _⟩ := E2.out.form ks.length rfl
  subst f0
  obtain ⟨a20, a21, a22, _, _⟩ := own3 OTa2.out
  obtain ⟨a23, a24, _, _⟩ := own2 OYa2.out
  refine hK.out _ _ (⟨a20, a21, a22, a23, a24⟩) ?_
  clear hK K hHeld
  intro hHeld
  try simp only [Act.put, List.setIfInBounds_toArray, List.set_cons_zero, List.set_cons_succ]
  refine wpH_one (i := 22) (by kernel_rfl) rfl (fun K hK => ?_)
  rw [if_pos (by rfl)]
  go_simp
  refine (asnd_lit _ ks N D B (0 + (us.map Us.s).length + (gs.map Gr.s).length) ([] ++ us.map Us.s ++ gs.map Gr.s) true _ E2.out HMa2.out HMa2.out.lt (by first | omega | (simp; omega)) (by first | omega | (simp; omega)) hD60 HSA.out).mono ?_
  rintro e wb2 ⟨rfl, hg, hcnt⟩
  have OT3 := Lib.hid (OTa2.out.grown HMa2.out hg)
  have OY3 := Lib.hid (OYa2.out.grown HMa2.out hg)
  have BB3 := Lib.hid (BA2.out.grown hg BA2.out.size (fun k hk => by cases hk; exact hbw2))
  have HM3 := Lib.hid (hcnt rfl)
  clear hg hcnt
  obtain ⟨b20, b21, b22, _, _⟩ := own3 OT3.out
  obtain ⟨b23, b24, _, _⟩ := own2 OY3.out
  refine hK.out _ _ (⟨b20, b21, b22, b23, b24⟩) ?_
  clear hK K hHeld
  intro hHeld
  try simp only [Act.put, List.setIfInBounds_toArray, List.set_cons_zero, List.set_cons_succ]
  refine wpH_take (i := 23) (some 66) (v := ?x103v) rfl (by kernel_rfl) (by kernel_rfl) (by kernel_rfl) rfl (fun _ _ _ h => h) (Or.inl ⟨by rfl, ?x103y⟩) hHeld ?x103r
  case x103y => (intro w hSw; (try dsimp only at hSw); go_simp; try with_reducible rfl)
  try simp only [Act.put, List.setIfInBounds_toArray, List.set_cons_zero, List.set_cons_succ]
  refine wpH_take (i := 24) (some 67) (v := ?x104v) rfl (by kernel_rfl) (by kernel_rfl) (by kernel_rfl) rfl (fun _ _ _ h => h) (Or.inl ⟨by rfl, ?x104y⟩) hHeld ?x104r
  case x104y => (intro w hSw; (try dsimp only at hSw); go_simp; try with_reducible rfl)
  try simp only [Act.put, List.setIfInBounds_toArray, List.set_cons_zero, List.set_cons_succ]
  refine wpAnyH_done (by kernel_rfl) ?_ _
  have HQ := Lib.hid HM3.out
  have BB := Lib.hid BB3.out
  clear b20 b21 b22 b23 b24
  obtain ⟨KS, hKS⟩ : ∃ KS, us.map Us.s ++ gs.map Gr.s ++ ks.map Ak.s = KS := ⟨_, rfl⟩
  have HR := Lib.hid (show oneB us gs ks = decide KS.Nodup by rw [← hKS]; rfl)
  rw [List.nil_append, hKS] at HQ
  obtain ⟨nn, hnn⟩ : ∃ nn, 0 + (us.map Us.s).length + (gs.map Gr.s).length + (ks.map Ak.s).length = nn := ⟨_, rfl⟩
  rw [hnn] at HQ
  clear hKS hnn
  obtain ⟨DD, hown, hmap, hat⟩ := HQ.out
  have HO := Lib.hid hown
  have HA := Lib.hid hat
  clear hown hmap hat HQ
  go_wp2_with (first | (at_range; refine wpList_range_own _ rfl _ 78 rfl 3 3 lawK Try.underlying78 _ B nn _ rfl HO.out ?_; intro w0 hrg0 hg0 hs0; have RG := Lib.hid hrg0; have G0 := Lib.hid hg0; clear hrg0 hg0 hs0) | fail)
  go_frame
  go_loopw [7] (fun _ wr => ∃ (left : Lit → Bool) (cnt : Nat), wr.ranges Try.prog 3 (plainElem (H := Unit) Try.prog 3) B wb2.heap.size nn DD left cnt ∧ wb2.grownBy wr none ∧ LeftOk KS left) (fun _ wr => wr.rangeLeft B wb2.heap.size)
  case atStart => exact ⟨_, _, RG.out, G0.out, left_start (fun k => (HA.out k).2)⟩
  case round =>
    obtain ⟨left, cnt, hrg, hgw, hlo⟩ := hrel
    have RGr := Lib.hid hrg
    have GW := Lib.hid hgw
    have LO := Lib.hid hlo
    clear hrg hgw hlo
    go_wp2_with (first | (at_next; refine wpList_next_ranges_ii _ rfl _ rfl 3 3 .i64 .i64 lawK Try.underlying3 Try.underlying3 B wb2.heap.size nn _ _ _ rfl RGr.out ?_ ?_) | fail)
    · intro _ hl0
      have HL := Lib.hid hl0
      clear hl0
      go_wp2_with fail
      go_ret
      exact ⟨ret_bool (by rw [HR.out, decide_eq_true (left_end LO.out HL.out)]), BB.out.grown GW.out BB.out.size (fun k hk => by cases hk)⟩
    · intro x c w1 cnt1 hwx hwc hlx hat hrg1 hlt hg1 hs1 hen
      have hc : c = (KS.count x : Nat) := by
        have h1 := (HA.out x).1
        rw [hat] at h1
        simpa using h1
      have HC := Lib.hid hc
      have RG1 := Lib.hid hrg1
      have G1 := Lib.hid (GW.out.andThen hg1 (fun j hj => by cases hj; exact .inl (Nat.le_refl _)))
      have HLT := Lib.hid hlt
      clear hat hrg1 hg1 hc hwc hwx hlx hs1 hlt
      by_cases hc1 : (1 : Int) < c
      · go_wp2_with fail
        go_ret
        exact ⟨ret_bool (by rw [HR.out, decide_eq_false (fun h => by have h2 := (nodup_count KS).1 h x; have h3 := HC.out; omega)]), BB.out.grown G1.out BB.out.size (fun k hk => by cases hk)⟩
      · have hc2 : decide ((1 : Int) < c) = false := decide_eq_false hc1
        have HC1 := Lib.hid hc1
        clear hc1
        go_wp2_with fail
        go_roundw
        case rel => exact ⟨_, cnt1, RG1.out, G1.out, left_step LO.out (by have h1 := HC.out; have h2 := HC1.out; omega)⟩
        case measure => rw [RG1.out.left_eq, RGr.out.left_eq]; exact HLT.out

theorem valid_any (vu vg va : Value) (us : List Us) (gs : List Gr) (ks : List Ak) (N D : Int) (w : World) (su : SlU w vu us) (sg : SlG w vg gs) (sa : SlA w va ks) (u70 : us.length ≤ 70) (g70 : gs.length ≤ 70) (k70 : ks.length ≤ 70) : Calls Try.prog 17 #[.agg #[vu, vg, va], .agg #[.int .i64 N, .int .i64 D]] w fun e w' => e = .returned (.bool (vldT N D us gs ks)) ∧ Below w.heap.size w w' := by
  cases N0 : decide (N < 1) with
  | true =>
    have e : vldT N D us gs ks = false := by
      have h := of_decide_eq_true N0
      have : layB N D = false := by rw [← Bool.not_eq_true, layB_iff]; omega
      rw [vldT, this]; rfl
    rw [e]; exact vld_t0 vu vg va us gs ks N D w su sg sa u70 g70 k70 N0
  | false =>
    cases N1 : decide (60 < N) with
    | true =>
      have e : vldT N D us gs ks = false := by
        have h := of_decide_eq_true N1
        have : layB N D = false := by rw [← Bool.not_eq_true, layB_iff]; omega
        rw [vldT, this]; rfl
      rw [e]; exact vld_t1 vu vg va us gs ks N D w su sg sa u70 g70 k70 N0 N1
    | false =>
      cases D0 : decide (D < 1) with
      | true =>
        have e : vldT N D us gs ks = false := by
          have h := of_decide_eq_true D0
          have : layB N D = false := by rw [← Bool.not_eq_true, layB_iff]; omega
          rw [vldT, this]; rfl
        rw [e]; exact vld_t2 vu vg va us gs ks N D w su sg sa u70 g70 k70 N0 N1 D0
      | false =>
        cases D1 : decide (60 < D) with
        | true =>
          have e : vldT N D us gs ks = false := by
            have h := of_decide_eq_true D1
            have : layB N D = false := by rw [← Bool.not_eq_true, layB_iff]; omega
            rw [vldT, this]; rfl
          rw [e]; exact vld_t3 vu vg va us gs ks N D w su sg sa u70 g70 k70 N0 N1 D0 D1
        | false =>
          cases L0 : decide (24 < (us.length : Int) + (gs.length : Int)) with
          | true =>
            have e : vldT N D us gs ks = false := by
              have h := of_decide_eq_true L0
              have : lenB us gs ks = false := by rw [← Bool.not_eq_true]; simp only [lenB, Bool.and_eq_true, decide_eq_true_eq]; omega
              rw [vldT, this]; simp
            rw [e]; exact vld_t4 vu vg va us gs ks N D w su sg sa u70 g70 k70 N0 N1 D0 D1 L0
          | false =>
            cases L1 : decide (24 < (ks.length : Int)) with
            | true =>
              have e : vldT N D us gs ks = false := by
                have h := of_decide_eq_true L1
                have : lenB us gs ks = false := by rw [← Bool.not_eq_true]; simp only [lenB, Bool.and_eq_true, decide_eq_true_eq]; omega
                rw [vldT, this]; simp
              rw [e]; exact vld_t5 vu vg va us gs ks N D w su sg sa u70 g70 k70 N0 N1 D0 D1 L0 L1
            | false =>
              have eL : layB N D = true := by
                rw [layB_iff]
                have h0 := of_decide_eq_false N0
                have h1 := of_decide_eq_false N1
                have h2 := of_decide_eq_false D0
                have h3 := of_decide_eq_false D1
                omega
              have eN : lenB us gs ks = true := by
                simp only [lenB, Bool.and_eq_true, decide_eq_true_eq]
                have h4 := of_decide_eq_false L0
                have h5 := of_decide_eq_false L1
                omega
              cases hs : sndU N D us with
              | false =>
                rw [vldT, eL, eN, hs]; exact vld_u vu vg va us gs ks N D w su sg sa u70 g70 k70 N0 N1 D0 D1 L0 L1 hs
              | true =>
                cases hg : sndG N D gs with
                | false =>
                  rw [vldT, eL, eN, hs, hg]; exact vld_g vu vg va us gs ks N D w su sg sa u70 g70 k70 N0 N1 D0 D1 L0 L1 hs hg
                | true =>
                  cases ha : sndA N D ks with
                  | false =>
                    rw [vldT, eL, eN, hs, hg, ha]; exact vld_a vu vg va us gs ks N D w su sg sa u70 g70 k70 N0 N1 D0 D1 L0 L1 hs hg ha
                  | true =>
                    rw [vldT, eL, eN, hs, hg, ha]; exact vld_ok vu vg va us gs ks N D w su sg sa u70 g70 k70 N0 N1 D0 D1 L0 L1 hs hg ha
theorem valid_lit (vu vg va : Value) (us : List Us) (gs : List Gr) (ks : List Ak) (N D : Int) (w : World) (su : SlU w vu us) (sg : SlG w vg gs) (sa : SlA w va ks) (u70 : us.length ≤ 70) (g70 : gs.length ≤ 70) (k70 : ks.length ≤ 70) (x : Bool) (h : vldT N D us gs ks = x) : Calls Try.prog 17 #[.agg #[vu, vg, va], .agg #[.int .i64 N, .int .i64 D]] w fun e w' => e = .returned (.bool x) ∧ Below w.heap.size w w' := by
  rw [← h]; exact valid_any vu vg va us gs ks N D w su sg sa u70 g70 k70

end Go.Proofs.Ytdmadnoijhmbcaa
