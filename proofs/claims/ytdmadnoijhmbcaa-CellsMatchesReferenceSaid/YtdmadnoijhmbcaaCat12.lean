/- slices.Grow (of nil), slices.Concat (of three). -/
import Derived.Test.YtdmadnoijhmbcaaDel12
namespace Go.Proofs.Ytdmadnoijhmbcaa
open Go.RowKit

theorem grow0_u (w : World) : Calls Try.prog 74 #[.slice none 0 0, .int .i64 0] w fun e w' => OwnU w [] e w' := by
  go_enter Try.func74, Try.ntmps74
  go_wp2
  go_ret
  exact ⟨_, rfl, World.ownsRow_nil _ _ _ _, Below.refl _ _⟩
set_option linter.unusedSimpArgs false in
set_option linter.unusedVariables false in
set_option maxRecDepth 100000 in
set_option maxHeartbeats 2000000 in
theorem grow1_u (n : Nat) (w : World) (h1 : 0 < n) (h2 : n ≤ 1000) : Calls Try.prog 74 #[.slice none 0 0, .int .i64 n] w fun e w' => OwnU w [] e w' := by
  obtain ⟨i0, hi, hz, hs0, hb0⟩ := info_parts info_u
  obtain ⟨z, hzz⟩ : ∃ z, z = Value.agg #[.int .i64 0, .int .i64 0, .int .i64 0, .int .i64 0] := ⟨_, rfl⟩
  rw [← hzz] at hz
  have hzs : z.cells.size = 4 := by rw [hzz]; rfl
  clear hzz
  have hrz : ∀ ty, (Builtin.append_ #[22, 3] ty #[.slice none 0 0, .int .i64 (n : Int)]).run Try.prog w =
      .ok (.slice (some ⟨w.heap.size, 0, none⟩) n (grownCap w n 0 32)) (w.drew.alloc (.cells (#[] ++ Builtin.zeroCells z.cells n ++ Builtin.zeroCells z.cells (grownCap w n 0 32 - n)) 32)) := fun ty => by
    have h := Lib.run_append_grow_zeros w 22 3 ty 32 i0 z .i64 .i64 (by kernel_rfl) (by kernel_rfl) hi hz none 0 0 [] (run_firstCells_none w.drew i0.size 0 0 0) n (by omega) (by omega) (by omega) (by omega) (by rw [hb0]; omega) (by rw [Nat.zero_add]; exact growslice_fits (by omega) (by rw [hb0]; omega))
    simpa using h
  have hGn : n ≤ grownCap w n 0 32 := grownCap_ge w _ _ _
  have hGm : grownCap w n 0 32 ≤ maxLen := grownCap_le_maxLen w n 0 _ (by unfold maxLen; omega)
  obtain ⟨G, hG⟩ : ∃ G, G = grownCap w n 0 32 := ⟨_, rfl⟩
  rw [← hG] at hrz hGn hGm
  have HM := Lib.hid hGm
  obtain ⟨CS, hCS⟩ : ∃ CS, CS = (#[] ++ Builtin.zeroCells z.cells n ++ Builtin.zeroCells z.cells (G - n)) := ⟨_, rfl⟩
  have HZ := Lib.hid (show CS.size = G * 4 by rw [hCS]; simp only [Array.size_append, size_zeroCells, hzs, List.size_toArray, List.length_nil]; omega)
  rw [← hCS] at hrz
  unfold maxLen at hGm
  clear hG hzs hCS hz hi hs0 hb0
  go_enter Try.func74, Try.ntmps74
  go_wp2_with (at_builtin; refine Lib.wpList_append_run _ rfl _ _ _ _ rfl _ _ rfl rfl _ _ (hrz _) ?_)
  all_goals (go_ret; exact ⟨_, rfl, World.ownsRow_made w.drew _ G (Nat.le_refl _) HM.out HZ.out, (Below.refl _ w).drew.alloc (Nat.le_refl _) _⟩)
theorem grow_u (n : Nat) (x : Int) (hx : x = n) (w : World) (h2 : n ≤ 1000) : Calls Try.prog 74 #[.slice none 0 0, .int .i64 x] w fun e w' => OwnU w [] e w' := by
  subst hx
  rcases Nat.eq_zero_or_pos n with rfl | h
  · exact grow0_u w
  · exact grow1_u n w h h2

set_option linter.unusedSimpArgs false in
set_option linter.unusedVariables false in
set_option maxRecDepth 100000 in
set_option maxHeartbeats 2000000 in
theorem cat_u (b : Nat) (p1 : Addr) (c1 : Nat) (l1 : List Us) (p2 : Addr) (c2 : Nat) (l2 : List Us) (p3 : Addr) (c3 : Nat) (l3 : List Us) (w : World) (hb : b < w.heap.size) (c00 : w.cell? ⟨b, 0, none⟩ = some (.slice (some p1) l1.length c1)) (c01 : w.cell? ⟨b, 1, none⟩ = some (.slice (some p2) l2.length c2)) (c02 : w.cell? ⟨b, 2, none⟩ = some (.slice (some p3) l3.length c3)) (s1 : SlU w (.slice (some p1) l1.length c1) l1) (n1 : l1.length ≤ 100) (s2 : SlU w (.slice (some p2) l2.length c2) l2) (n2 : l2.length ≤ 100) (s3 : SlU w (.slice (some p3) l3.length c3) l3) (n3 : l3.length ≤ 100) :
    Calls Try.prog 63 #[.slice (some ⟨b, 0, none⟩) 3 3] w fun e w' => OwnU w (l1 ++ l2 ++ l3) e w' := by
  have S1 := Lib.hid s1
  have i1 : (0 : Int) ≤ (l1.length : Int) := Int.natCast_nonneg _
  have j1 : (l1.length : Int) ≤ 100 := by omega
  have S2 := Lib.hid s2
  have i2 : (0 : Int) ≤ (l2.length : Int) := Int.natCast_nonneg _
  have j2 : (l2.length : Int) ≤ 100 := by omega
  have S3 := Lib.hid s3
  have i3 : (0 : Int) ≤ (l3.length : Int) := Int.natCast_nonneg _
  have j3 : (l3.length : Int) ≤ 100 := by omega
  have i12 : (l1.length : Int) + (l2.length : Int) ≤ 200 := by omega
  have i123 : (l1.length : Int) + (l2.length : Int) + (l3.length : Int) ≤ 300 := by omega
  have C0 := Lib.hid c00
  have C1 := Lib.hid c01
  have C2 := Lib.hid c02
  have HB := Lib.hid hb
  obtain ⟨i0, hi, hz, hs0, hb0⟩ := info_parts info_u
  have IF := Lib.hid (And.intro hi (And.intro hz (And.intro hs0 hb0)))
  clear hi hz hs0 hb0
  clear s1 s2 s3 hb
  go_enter Try.func63, Try.ntmps63
  go_wp2_with fail
  refine wp_loop_rounds 4 ?_
  rw [rounds_succ]
  go_wp2_with fail
  rw [rounds_succ]
  go_wp2_with fail
  rw [rounds_succ]
  go_wp2_with fail
  rw [rounds_succ]
  go_wp2_with fail
  refine (grow_u (l1.length + l2.length + l3.length) _ (by simp) _ (by omega)).mono ?_
  rintro e w1 ⟨v1, rfl, hown, hbel⟩
  have B1 := Lib.hid hbel
  have H1 := Lib.hid hown
  clear hown hbel c00 c01 c02
  have d0 := (B1.out.cell (p := ⟨b, 0, none⟩) HB.out).trans C0.out
  have d1 := (B1.out.cell (p := ⟨b, 1, none⟩) HB.out).trans C1.out
  have d2 := (B1.out.cell (p := ⟨b, 2, none⟩) HB.out).trans C2.out
  go_wp2_with fail
  refine wp_loop_rounds 4 ?_
  rw [rounds_succ]
  have O0 := Lib.hid ((S1.out.below B1.out).olds p1 rfl)
  go_wp2_with (at_builtin; refine wpList_append_own _ rfl _ _ 22 rfl w.heap.size 32 i0 _ 4 32 (by kernel_rfl) IF.out.1 IF.out.2.1 IF.out.2.2.1 IF.out.2.2.2 rfl (by decide) v1 (0) ([]) rfl H1.out p1 l1.length c1 (flatT usL l1) rfl (flatT_len l1) O0.out flatT_cell ?qc4 ?qc5 ?qc6 ?_)
  case qc4 => unfold maxLen; omega
  case qc5 => omega
  case qc6 => exact B1.out.size
  intro v2 w2 hown hgrow hnil
  have B2 := Lib.hid (B1.out.grown hgrow B1.out.size (fun k hk => (H1.out.lt k hk).1))
  (try rw [Nat.zero_add] at hown); (try rw [List.nil_append] at hown)
  have H2 := Lib.hid hown
  clear hown hgrow hnil d0 d1 d2
  have d0 := (B2.out.cell (p := ⟨b, 0, none⟩) HB.out).trans C0.out
  have d1 := (B2.out.cell (p := ⟨b, 1, none⟩) HB.out).trans C1.out
  have d2 := (B2.out.cell (p := ⟨b, 2, none⟩) HB.out).trans C2.out
  go_wp2_with fail
  rw [rounds_succ]
  have O1 := Lib.hid ((S2.out.below B2.out).olds p2 rfl)
  go_wp2_with (at_builtin; refine wpList_append_own _ rfl _ _ 22 rfl w.heap.size 32 i0 _ 4 32 (by kernel_rfl) IF.out.1 IF.out.2.1 IF.out.2.2.1 IF.out.2.2.2 rfl (by decide) v2 (l1.length) (flatT usL l1) rfl H2.out p2 l2.length c2 (flatT usL l2) rfl (flatT_len l2) O1.out flatT_cell ?qc4 ?qc5 ?qc6 ?_)
  case qc4 => unfold maxLen; omega
  case qc5 => omega
  case qc6 => exact B2.out.size
  intro v3 w3 hown hgrow hnil
  have B3 := Lib.hid (B2.out.grown hgrow B2.out.size (fun k hk => (H2.out.lt k hk).1))
  skip
  have H3 := Lib.hid hown
  clear hown hgrow hnil d0 d1 d2
  have d0 := (B3.out.cell (p := ⟨b, 0, none⟩) HB.out).trans C0.out
  have d1 := (B3.out.cell (p := ⟨b, 1, none⟩) HB.out).trans C1.out
  have d2 := (B3.out.cell (p := ⟨b, 2, none⟩) HB.out).trans C2.out
  go_wp2_with fail
  rw [rounds_succ]
  have O2 := Lib.hid ((S3.out.below B3.out).olds p3 rfl)
  go_wp2_with (at_builtin; refine wpList_append_own _ rfl _ _ 22 rfl w.heap.size 32 i0 _ 4 32 (by kernel_rfl) IF.out.1 IF.out.2.1 IF.out.2.2.1 IF.out.2.2.2 rfl (by decide) v3 (l1.length + l2.length) (flatT usL l1 ++ flatT usL l2) rfl H3.out p3 l3.length c3 (flatT usL l3) rfl (flatT_len l3) O2.out flatT_cell ?qc4 ?qc5 ?qc6 ?_)
  case qc4 => unfold maxLen; omega
  case qc5 => omega
  case qc6 => exact B3.out.size
  intro v4 w4 hown hgrow hnil
  have B4 := Lib.hid (B3.out.grown hgrow B3.out.size (fun k hk => (H3.out.lt k hk).1))
  skip
  have H4 := Lib.hid hown
  clear hown hgrow hnil d0 d1 d2
  have d0 := (B4.out.cell (p := ⟨b, 0, none⟩) HB.out).trans C0.out
  have d1 := (B4.out.cell (p := ⟨b, 1, none⟩) HB.out).trans C1.out
  have d2 := (B4.out.cell (p := ⟨b, 2, none⟩) HB.out).trans C2.out
  go_wp2_with fail
  rw [rounds_succ]
  go_wp2
  go_ret
  exact ⟨v4, rfl, by have := H4.out; simpa [flatT_append, List.length_append, Nat.add_assoc] using this, B4.out⟩

set_option linter.unusedSimpArgs false in
set_option linter.unusedVariables false in
set_option maxRecDepth 100000 in
set_option maxHeartbeats 2000000 in
theorem cat0_u (b : Nat) (p2 : Addr) (c2 : Nat) (l2 : List Us) (w : World) (hb : b < w.heap.size) (c00 : w.cell? ⟨b, 0, none⟩ = some (.slice none 0 0)) (c01 : w.cell? ⟨b, 1, none⟩ = some (.slice (some p2) l2.length c2)) (c02 : w.cell? ⟨b, 2, none⟩ = some (.slice none 0 0)) (s2 : SlU w (.slice (some p2) l2.length c2) l2) (n2 : l2.length ≤ 100) :
    Calls Try.prog 63 #[.slice (some ⟨b, 0, none⟩) 3 3] w fun e w' => OwnU w (l2) e w' := by
  have S2 := Lib.hid s2
  have i2 : (0 : Int) ≤ (l2.length : Int) := Int.natCast_nonneg _
  have j2 : (l2.length : Int) ≤ 100 := by omega
  have C0 := Lib.hid c00
  have C1 := Lib.hid c01
  have C2 := Lib.hid c02
  have HB := Lib.hid hb
  obtain ⟨i0, hi, hz, hs0, hb0⟩ := info_parts info_u
  have IF := Lib.hid (And.intro hi (And.intro hz (And.intro hs0 hb0)))
  clear hi hz hs0 hb0
  clear s2 hb
  go_enter Try.func63, Try.ntmps63
  go_wp2_with fail
  refine wp_loop_rounds 4 ?_
  rw [rounds_succ]
  go_wp2_with fail
  rw [rounds_succ]
  go_wp2_with fail
  rw [rounds_succ]
  go_wp2_with fail
  rw [rounds_succ]
  go_wp2_with fail
  refine (grow_u (l2.length) _ (by simp) _ (by omega)).mono ?_
  rintro e w1 ⟨v1, rfl, hown, hbel⟩
  have B1 := Lib.hid hbel
  have H1 := Lib.hid hown
  clear hown hbel c00 c01 c02
  have d0 := (B1.out.cell (p := ⟨b, 0, none⟩) HB.out).trans C0.out
  have d1 := (B1.out.cell (p := ⟨b, 1, none⟩) HB.out).trans C1.out
  have d2 := (B1.out.cell (p := ⟨b, 2, none⟩) HB.out).trans C2.out
  go_wp2_with fail
  refine wp_loop_rounds 4 ?_
  rw [rounds_succ]
  go_wp2_with (at_builtin; refine wpList_append_own_none rfl _ _ 22 rfl w.heap.size 32 i0 4 (by kernel_rfl) IF.out.1 v1 (0) ([]) rfl H1.out rfl ?_)
  rw [rounds_succ]
  have O1 := Lib.hid ((S2.out.below B1.out).olds p2 rfl)
  go_wp2_with (at_builtin; refine wpList_append_own _ rfl _ _ 22 rfl w.heap.size 32 i0 _ 4 32 (by kernel_rfl) IF.out.1 IF.out.2.1 IF.out.2.2.1 IF.out.2.2.2 rfl (by decide) v1 (0) ([]) rfl H1.out p2 l2.length c2 (flatT usL l2) rfl (flatT_len l2) O1.out flatT_cell ?qc4 ?qc5 ?qc6 ?_)
  case qc4 => unfold maxLen; omega
  case qc5 => omega
  case qc6 => exact B1.out.size
  intro v2 w2 hown hgrow hnil
  have B2 := Lib.hid (B1.out.grown hgrow B1.out.size (fun k hk => (H1.out.lt k hk).1))
  (try rw [Nat.zero_add] at hown); (try rw [List.nil_append] at hown)
  have H2 := Lib.hid hown
  clear hown hgrow hnil d0 d1 d2
  have d0 := (B2.out.cell (p := ⟨b, 0, none⟩) HB.out).trans C0.out
  have d1 := (B2.out.cell (p := ⟨b, 1, none⟩) HB.out).trans C1.out
  have d2 := (B2.out.cell (p := ⟨b, 2, none⟩) HB.out).trans C2.out
  go_wp2_with fail
  rw [rounds_succ]
  go_wp2_with (at_builtin; refine wpList_append_own_none rfl _ _ 22 rfl w.heap.size 32 i0 4 (by kernel_rfl) IF.out.1 v2 (l2.length) (flatT usL l2) rfl H2.out rfl ?_)
  rw [rounds_succ]
  go_wp2
  go_ret
  exact ⟨v2, rfl, by have := H2.out; simpa [flatT_append, List.length_append, Nat.add_assoc] using this, B2.out⟩

theorem catn_u (b : Nat) (p1 p2 p3 : Addr) (n1 n2 n3 c1 c2 c3 : Nat) (l1 l2 l3 : List Us) (w : World) (hb : b < w.heap.size) (e1 : l1.length = n1) (e2 : l2.length = n2) (e3 : l3.length = n3) (c00 : w.cell? ⟨b, 0, none⟩ = some (.slice (some p1) n1 c1)) (c01 : w.cell? ⟨b, 1, none⟩ = some (.slice (some p2) n2 c2)) (c02 : w.cell? ⟨b, 2, none⟩ = some (.slice (some p3) n3 c3))
    (s1 : SlU w (.slice (some p1) n1 c1) l1) (s2 : SlU w (.slice (some p2) n2 c2) l2) (s3 : SlU w (.slice (some p3) n3 c3) l3) (m1 : n1 ≤ 100) (m2 : n2 ≤ 100) (m3 : n3 ≤ 100) :
    Calls Try.prog 63 #[.slice (some ⟨b, 0, none⟩) 3 3] w fun e w' => OwnU w (l1 ++ l2 ++ l3) e w' := by
  subst e1 e2 e3
  exact cat_u b p1 c1 l1 p2 c2 l2 p3 c3 l3 w hb c00 c01 c02 s1 m1 s2 m2 s3 m3

theorem grow0_g (w : World) : Calls Try.prog 75 #[.slice none 0 0, .int .i64 0] w fun e w' => OwnG w [] e w' := by
  go_enter Try.func75, Try.ntmps75
  go_wp2
  go_ret
  exact ⟨_, rfl, World.ownsRow_nil _ _ _ _, Below.refl _ _⟩
set_option linter.unusedSimpArgs false in
set_option linter.unusedVariables false in
set_option maxRecDepth 100000 in
set_option maxHeartbeats 2000000 in
theorem grow1_g (n : Nat) (w : World) (h1 : 0 < n) (h2 : n ≤ 1000) : Calls Try.prog 75 #[.slice none 0 0, .int .i64 n] w fun e w' => OwnG w [] e w' := by
  obtain ⟨i0, hi, hz, hs0, hb0⟩ := info_parts info_g
  obtain ⟨z, hzz⟩ : ∃ z, z = Value.agg #[.int .i64 0, .int .i64 0, .int .i64 0, .int .i64 0, .int .i64 0] := ⟨_, rfl⟩
  rw [← hzz] at hz
  have hzs : z.cells.size = 5 := by rw [hzz]; rfl
  clear hzz
  have hrz : ∀ ty, (Builtin.append_ #[23, 3] ty #[.slice none 0 0, .int .i64 (n : Int)]).run Try.prog w =
      .ok (.slice (some ⟨w.heap.size, 0, none⟩) n (grownCap w n 0 34)) (w.drew.alloc (.cells (#[] ++ Builtin.zeroCells z.cells n ++ Builtin.zeroCells z.cells (grownCap w n 0 34 - n)) 34)) := fun ty => by
    have h := Lib.run_append_grow_zeros w 23 3 ty 34 i0 z .i64 .i64 (by kernel_rfl) (by kernel_rfl) hi hz none 0 0 [] (run_firstCells_none w.drew i0.size 0 0 0) n (by omega) (by omega) (by omega) (by omega) (by rw [hb0]; omega) (by rw [Nat.zero_add]; exact growslice_fits (by omega) (by rw [hb0]; omega))
    simpa using h
  have hGn : n ≤ grownCap w n 0 34 := grownCap_ge w _ _ _
  have hGm : grownCap w n 0 34 ≤ maxLen := grownCap_le_maxLen w n 0 _ (by unfold maxLen; omega)
  obtain ⟨G, hG⟩ : ∃ G, G = grownCap w n 0 34 := ⟨_, rfl⟩
  rw [← hG] at hrz hGn hGm
  have HM := Lib.hid hGm
  obtain ⟨CS, hCS⟩ : ∃ CS, CS = (#[] ++ Builtin.zeroCells z.cells n ++ Builtin.zeroCells z.cells (G - n)) := ⟨_, rfl⟩
  have HZ := Lib.hid (show CS.size = G * 5 by rw [hCS]; simp only [Array.size_append, size_zeroCells, hzs, List.size_toArray, List.length_nil]; omega)
  rw [← hCS] at hrz
  unfold maxLen at hGm
  clear hG hzs hCS hz hi hs0 hb0
  go_enter Try.func75, Try.ntmps75
  go_wp2_with (at_builtin; refine Lib.wpList_append_run _ rfl _ _ _ _ rfl _ _ rfl rfl _ _ (hrz _) ?_)
  all_goals (go_ret; exact ⟨_, rfl, World.ownsRow_made w.drew _ G (Nat.le_refl _) HM.out HZ.out, (Below.refl _ w).drew.alloc (Nat.le_refl _) _⟩)
theorem grow_g (n : Nat) (x : Int) (hx : x = n) (w : World) (h2 : n ≤ 1000) : Calls Try.prog 75 #[.slice none 0 0, .int .i64 x] w fun e w' => OwnG w [] e w' := by
  subst hx
  rcases Nat.eq_zero_or_pos n with rfl | h
  · exact grow0_g w
  · exact grow1_g n w h h2

set_option linter.unusedSimpArgs false in
set_option linter.unusedVariables false in
set_option maxRecDepth 100000 in
set_option maxHeartbeats 2000000 in
theorem cat_g (b : Nat) (p1 : Addr) (c1 : Nat) (l1 : List Gr) (p2 : Addr) (c2 : Nat) (l2 : List Gr) (p3 : Addr) (c3 : Nat) (l3 : List Gr) (w : World) (hb : b < w.heap.size) (c00 : w.cell? ⟨b, 0, none⟩ = some (.slice (some p1) l1.length c1)) (c01 : w.cell? ⟨b, 1, none⟩ = some (.slice (some p2) l2.length c2)) (c02 : w.cell? ⟨b, 2, none⟩ = some (.slice (some p3) l3.length c3)) (s1 : SlG w (.slice (some p1) l1.length c1) l1) (n1 : l1.length ≤ 100) (s2 : SlG w (.slice (some p2) l2.length c2) l2) (n2 : l2.length ≤ 100) (s3 : SlG w (.slice (some p3) l3.length c3) l3) (n3 : l3.length ≤ 100) :
    Calls Try.prog 67 #[.slice (some ⟨b, 0, none⟩) 3 3] w fun e w' => OwnG w (l1 ++ l2 ++ l3) e w' := by
  have S1 := Lib.hid s1
  have i1 : (0 : Int) ≤ (l1.length : Int) := Int.natCast_nonneg _
  have j1 : (l1.length : Int) ≤ 100 := by omega
  have S2 := Lib.hid s2
  have i2 : (0 : Int) ≤ (l2.length : Int) := Int.natCast_nonneg _
  have j2 : (l2.length : Int) ≤ 100 := by omega
  have S3 := Lib.hid s3
  have i3 : (0 : Int) ≤ (l3.length : Int) := Int.natCast_nonneg _
  have j3 : (l3.length : Int) ≤ 100 := by omega
  have i12 : (l1.length : Int) + (l2.length : Int) ≤ 200 := by omega
  have i123 : (l1.length : Int) + (l2.length : Int) + (l3.length : Int) ≤ 300 := by omega
  have C0 := Lib.hid c00
  have C1 := Lib.hid c01
  have C2 := Lib.hid c02
  have HB := Lib.hid hb
  obtain ⟨i0, hi, hz, hs0, hb0⟩ := info_parts info_g
  have IF := Lib.hid (And.intro hi (And.intro hz (And.intro hs0 hb0)))
  clear hi hz hs0 hb0
  clear s1 s2 s3 hb
  go_enter Try.func67, Try.ntmps67
  go_wp2_with fail
  refine wp_loop_rounds 4 ?_
  rw [rounds_succ]
  go_wp2_with fail
  rw [rounds_succ]
  go_wp2_with fail
  rw [rounds_succ]
  go_wp2_with fail
  rw [rounds_succ]
  go_wp2_with fail
  refine (grow_g (l1.length + l2.length + l3.length) _ (by simp) _ (by omega)).mono ?_
  rintro e w1 ⟨v1, rfl, hown, hbel⟩
  have B1 := Lib.hid hbel
  have H1 := Lib.hid hown
  clear hown hbel c00 c01 c02
  have d0 := (B1.out.cell (p := ⟨b, 0, none⟩) HB.out).trans C0.out
  have d1 := (B1.out.cell (p := ⟨b, 1, none⟩) HB.out).trans C1.out
  have d2 := (B1.out.cell (p := ⟨b, 2, none⟩) HB.out).trans C2.out
  go_wp2_with fail
  refine wp_loop_rounds 4 ?_
  rw [rounds_succ]
  have O0 := Lib.hid ((S1.out.below B1.out).olds p1 rfl)
  go_wp2_with (at_builtin; refine wpList_append_own _ rfl _ _ 23 rfl w.heap.size 34 i0 _ 5 40 (by kernel_rfl) IF.out.1 IF.out.2.1 IF.out.2.2.1 IF.out.2.2.2 rfl (by decide) v1 (0) ([]) rfl H1.out p1 l1.length c1 (flatT grL l1) rfl (flatT_len l1) O0.out flatT_cell ?qc4 ?qc5 ?qc6 ?_)
  case qc4 => unfold maxLen; omega
  case qc5 => omega
  case qc6 => exact B1.out.size
  intro v2 w2 hown hgrow hnil
  have B2 := Lib.hid (B1.out.grown hgrow B1.out.size (fun k hk => (H1.out.lt k hk).1))
  (try rw [Nat.zero_add] at hown); (try rw [List.nil_append] at hown)
  have H2 := Lib.hid hown
  clear hown hgrow hnil d0 d1 d2
  have d0 := (B2.out.cell (p := ⟨b, 0, none⟩) HB.out).trans C0.out
  have d1 := (B2.out.cell (p := ⟨b, 1, none⟩) HB.out).trans C1.out
  have d2 := (B2.out.cell (p := ⟨b, 2, none⟩) HB.out).trans C2.out
  go_wp2_with fail
  rw [rounds_succ]
  have O1 := Lib.hid ((S2.out.below B2.out).olds p2 rfl)
  go_wp2_with (at_builtin; refine wpList_append_own _ rfl _ _ 23 rfl w.heap.size 34 i0 _ 5 40 (by kernel_rfl) IF.out.1 IF.out.2.1 IF.out.2.2.1 IF.out.2.2.2 rfl (by decide) v2 (l1.length) (flatT grL l1) rfl H2.out p2 l2.length c2 (flatT grL l2) rfl (flatT_len l2) O1.out flatT_cell ?qc4 ?qc5 ?qc6 ?_)
  case qc4 => unfold maxLen; omega
  case qc5 => omega
  case qc6 => exact B2.out.size
  intro v3 w3 hown hgrow hnil
  have B3 := Lib.hid (B2.out.grown hgrow B2.out.size (fun k hk => (H2.out.lt k hk).1))
  skip
  have H3 := Lib.hid hown
  clear hown hgrow hnil d0 d1 d2
  have d0 := (B3.out.cell (p := ⟨b, 0, none⟩) HB.out).trans C0.out
  have d1 := (B3.out.cell (p := ⟨b, 1, none⟩) HB.out).trans C1.out
  have d2 := (B3.out.cell (p := ⟨b, 2, none⟩) HB.out).trans C2.out
  go_wp2_with fail
  rw [rounds_succ]
  have O2 := Lib.hid ((S3.out.below B3.out).olds p3 rfl)
  go_wp2_with (at_builtin; refine wpList_append_own _ rfl _ _ 23 rfl w.heap.size 34 i0 _ 5 40 (by kernel_rfl) IF.out.1 IF.out.2.1 IF.out.2.2.1 IF.out.2.2.2 rfl (by decide) v3 (l1.length + l2.length) (flatT grL l1 ++ flatT grL l2) rfl H3.out p3 l3.length c3 (flatT grL l3) rfl (flatT_len l3) O2.out flatT_cell ?qc4 ?qc5 ?qc6 ?_)
  case qc4 => unfold maxLen; omega
  case qc5 => omega
  case qc6 => exact B3.out.size
  intro v4 w4 hown hgrow hnil
  have B4 := Lib.hid (B3.out.grown hgrow B3.out.size (fun k hk => (H3.out.lt k hk).1))
  skip
  have H4 := Lib.hid hown
  clear hown hgrow hnil d0 d1 d2
  have d0 := (B4.out.cell (p := ⟨b, 0, none⟩) HB.out).trans C0.out
  have d1 := (B4.out.cell (p := ⟨b, 1, none⟩) HB.out).trans C1.out
  have d2 := (B4.out.cell (p := ⟨b, 2, none⟩) HB.out).trans C2.out
  go_wp2_with fail
  rw [rounds_succ]
  go_wp2
  go_ret
  exact ⟨v4, rfl, by have := H4.out; simpa [flatT_append, List.length_append, Nat.add_assoc] using this, B4.out⟩

set_option linter.unusedSimpArgs false in
set_option linter.unusedVariables false in
set_option maxRecDepth 100000 in
set_option maxHeartbeats 2000000 in
theorem cat0_g (b : Nat) (p2 : Addr) (c2 : Nat) (l2 : List Gr) (w : World) (hb : b < w.heap.size) (c00 : w.cell? ⟨b, 0, none⟩ = some (.slice none 0 0)) (c01 : w.cell? ⟨b, 1, none⟩ = some (.slice (some p2) l2.length c2)) (c02 : w.cell? ⟨b, 2, none⟩ = some (.slice none 0 0)) (s2 : SlG w (.slice (some p2) l2.length c2) l2) (n2 : l2.length ≤ 100) :
    Calls Try.prog 67 #[.slice (some ⟨b, 0, none⟩) 3 3] w fun e w' => OwnG w (l2) e w' := by
  have S2 := Lib.hid s2
  have i2 : (0 : Int) ≤ (l2.length : Int) := Int.natCast_nonneg _
  have j2 : (l2.length : Int) ≤ 100 := by omega
  have C0 := Lib.hid c00
  have C1 := Lib.hid c01
  have C2 := Lib.hid c02
  have HB := Lib.hid hb
  obtain ⟨i0, hi, hz, hs0, hb0⟩ := info_parts info_g
  have IF := Lib.hid (And.intro hi (And.intro hz (And.intro hs0 hb0)))
  clear hi hz hs0 hb0
  clear s2 hb
  go_enter Try.func67, Try.ntmps67
  go_wp2_with fail
  refine wp_loop_rounds 4 ?_
  rw [rounds_succ]
  go_wp2_with fail
  rw [rounds_succ]
  go_wp2_with fail
  rw [rounds_succ]
  go_wp2_with fail
  rw [rounds_succ]
  go_wp2_with fail
  refine (grow_g (l2.length) _ (by simp) _ (by omega)).mono ?_
  rintro e w1 ⟨v1, rfl, hown, hbel⟩
  have B1 := Lib.hid hbel
  have H1 := Lib.hid hown
  clear hown hbel c00 c01 c02
  have d0 := (B1.out.cell (p := ⟨b, 0, none⟩) HB.out).trans C0.out
  have d1 := (B1.out.cell (p := ⟨b, 1, none⟩) HB.out).trans C1.out
  have d2 := (B1.out.cell (p := ⟨b, 2, none⟩) HB.out).trans C2.out
  go_wp2_with fail
  refine wp_loop_rounds 4 ?_
  rw [rounds_succ]
  go_wp2_with (at_builtin; refine wpList_append_own_none rfl _ _ 23 rfl w.heap.size 34 i0 5 (by kernel_rfl) IF.out.1 v1 (0) ([]) rfl H1.out rfl ?_)
  rw [rounds_succ]
  have O1 := Lib.hid ((S2.out.below B1.out).olds p2 rfl)
  go_wp2_with (at_builtin; refine wpList_append_own _ rfl _ _ 23 rfl w.heap.size 34 i0 _ 5 40 (by kernel_rfl) IF.out.1 IF.out.2.1 IF.out.2.2.1 IF.out.2.2.2 rfl (by decide) v1 (0) ([]) rfl H1.out p2 l2.length c2 (flatT grL l2) rfl (flatT_len l2) O1.out flatT_cell ?qc4 ?qc5 ?qc6 ?_)
  case qc4 => unfold maxLen; omega
  case qc5 => omega
  case qc6 => exact B1.out.size
  intro v2 w2 hown hgrow hnil
  have B2 := Lib.hid (B1.out.grown hgrow B1.out.size (fun k hk => (H1.out.lt k hk).1))
  (try rw [Nat.zero_add] at hown); (try rw [List.nil_append] at hown)
  have H2 := Lib.hid hown
  clear hown hgrow hnil d0 d1 d2
  have d0 := (B2.out.cell (p := ⟨b, 0, none⟩) HB.out).trans C0.out
  have d1 := (B2.out.cell (p := ⟨b, 1, none⟩) HB.out).trans C1.out
  have d2 := (B2.out.cell (p := ⟨b, 2, none⟩) HB.out).trans C2.out
  go_wp2_with fail
  rw [rounds_succ]
  go_wp2_with (at_builtin; refine wpList_append_own_none rfl _ _ 23 rfl w.heap.size 34 i0 5 (by kernel_rfl) IF.out.1 v2 (l2.length) (flatT grL l2) rfl H2.out rfl ?_)
  rw [rounds_succ]
  go_wp2
  go_ret
  exact ⟨v2, rfl, by have := H2.out; simpa [flatT_append, List.length_append, Nat.add_assoc] using this, B2.out⟩

theorem catn_g (b : Nat) (p1 p2 p3 : Addr) (n1 n2 n3 c1 c2 c3 : Nat) (l1 l2 l3 : List Gr) (w : World) (hb : b < w.heap.size) (e1 : l1.length = n1) (e2 : l2.length = n2) (e3 : l3.length = n3) (c00 : w.cell? ⟨b, 0, none⟩ = some (.slice (some p1) n1 c1)) (c01 : w.cell? ⟨b, 1, none⟩ = some (.slice (some p2) n2 c2)) (c02 : w.cell? ⟨b, 2, none⟩ = some (.slice (some p3) n3 c3))
    (s1 : SlG w (.slice (some p1) n1 c1) l1) (s2 : SlG w (.slice (some p2) n2 c2) l2) (s3 : SlG w (.slice (some p3) n3 c3) l3) (m1 : n1 ≤ 100) (m2 : n2 ≤ 100) (m3 : n3 ≤ 100) :
    Calls Try.prog 67 #[.slice (some ⟨b, 0, none⟩) 3 3] w fun e w' => OwnG w (l1 ++ l2 ++ l3) e w' := by
  subst e1 e2 e3
  exact cat_g b p1 c1 l1 p2 c2 l2 p3 c3 l3 w hb c00 c01 c02 s1 m1 s2 m2 s3 m3

end Go.Proofs.Ytdmadnoijhmbcaa
