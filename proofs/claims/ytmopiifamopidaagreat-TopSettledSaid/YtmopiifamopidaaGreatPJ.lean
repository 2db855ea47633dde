/- What the inserting of a use, a grant or an ask returns. No condition but those named. -/
import Derived.Test.YtmopiifamopidaaGreatPE
import Derived.Test.YtmopiifamopidaaGreatPA
set_option linter.unusedVariables false
set_option linter.unusedSimpArgs false
section
namespace Go.Proofs.YtmopiifamopidaaGreat
open Go.RowKit
theorem grow0_u (w : World) : Calls Tryz.prog 112 #[.slice none 0 0, .int .i64 0] w fun e w' => OwnU w [] e w' := by
 go_enter Tryz.func112, Tryz.ntmps112
 go_wp2
 go_ret
 exact ⟨_, rfl, World.ownsRow_nil _ _ _ _, Below.refl _ _⟩
set_option maxRecDepth 100000 in
set_option maxHeartbeats 2000000 in
theorem grow1_u (n : Nat) (w : World) (h1 : 0 < n) (h2 : n ≤ 1000) : Calls Tryz.prog 112 #[.slice none 0 0, .int .i64 n] w fun e w' => OwnU w [] e w' := by
 obtain ⟨i0, hi, hz, hs0, hb0⟩ := info_parts info_u
 obtain ⟨z, hzz⟩ : ∃ z, z = Value.agg #[.int .i64 0, .int .i64 0, .int .i64 0, .int .i64 0] := ⟨_, rfl⟩
 rw [← hzz] at hz
 have hzs : z.cells.size = 4 := by rw [hzz]; rfl
 clear hzz
 have hrz : ∀ ty, (Builtin.append_ #[39, 3] ty #[.slice none 0 0, .int .i64 (n : Int)]).run Tryz.prog w =
   .ok (.slice (some ⟨w.heap.size, 0, none⟩) n (grownCap w n 0 50)) (w.drew.alloc (.cells (#[] ++ Builtin.zeroCells z.cells n ++ Builtin.zeroCells z.cells (grownCap w n 0 50 - n)) 50)) := fun ty => by
  have h := Lib.run_append_grow_zeros w 39 3 ty 50 i0 z .i64 .i64 (by kernel_rfl) (by kernel_rfl) hi hz none 0 0 [] (run_firstCells_none w.drew i0.size 0 0 0) n (by omega) (by omega) (by omega) (by omega) (by rw [hb0]; omega) (by rw [Nat.zero_add]; exact growslice_fits (by omega) (by rw [hb0]; omega))
  simpa using h
 have hGn : n ≤ grownCap w n 0 50 := grownCap_ge w _ _ _
 have hGm : grownCap w n 0 50 ≤ maxLen := grownCap_le_maxLen w n 0 _ (by unfold maxLen; omega)
 obtain ⟨G, hG⟩ : ∃ G, G = grownCap w n 0 50 := ⟨_, rfl⟩
 rw [← hG] at hrz hGn hGm
 have HM := Lib.hid hGm
 obtain ⟨CS, hCS⟩ : ∃ CS, CS = (#[] ++ Builtin.zeroCells z.cells n ++ Builtin.zeroCells z.cells (G - n)) := ⟨_, rfl⟩
 have HZ := Lib.hid (show CS.size = G * 4 by rw [hCS]; simp only [Array.size_append, size_zeroCells, hzs, List.size_toArray, List.length_nil]; omega)
 rw [← hCS] at hrz
 unfold maxLen at hGm
 clear hG hzs hCS hz hi hs0 hb0
 go_enter Tryz.func112, Tryz.ntmps112
 go_wp2_with (at_builtin; refine Lib.wpList_append_run _ rfl _ _ _ _ rfl _ _ rfl rfl _ _ (hrz _) ?_)
 all_goals (go_ret; exact ⟨_, rfl, World.ownsRow_made w.drew _ G (Nat.le_refl _) HM.out HZ.out, (Below.refl _ w).drew.alloc (Nat.le_refl _) _⟩)
theorem grow_u (n : Nat) (x : Int) (hx : x = n) (w : World) (h2 : n ≤ 1000) : Calls Tryz.prog 112 #[.slice none 0 0, .int .i64 x] w fun e w' => OwnU w [] e w' := by
 subst hx
 rcases Nat.eq_zero_or_pos n with rfl | h
 ·exact grow0_u w
 ·exact grow1_u n w h h2
set_option maxRecDepth 100000 in
set_option maxHeartbeats 2000000 in
theorem cat_u (b : Nat) (p1 : Addr) (c1 : Nat) (l1 : List Us) (p2 : Addr) (c2 : Nat) (l2 : List Us) (p3 : Addr) (c3 : Nat) (l3 : List Us) (w : World) (hb : b < w.heap.size) (c00 : w.cell? ⟨b, 0, none⟩ = some (.slice (some p1) l1.length c1)) (c01 : w.cell? ⟨b, 1, none⟩ = some (.slice (some p2) l2.length c2)) (c02 : w.cell? ⟨b, 2, none⟩ = some (.slice (some p3) l3.length c3)) (s1 : SlU w (.slice (some p1) l1.length c1) l1) (n1 : l1.length ≤ 100) (s2 : SlU w (.slice (some p2) l2.length c2) l2) (n2 : l2.length ≤ 100) (s3 : SlU w (.slice (some p3) l3.length c3) l3) (n3 : l3.length ≤ 100) :
  Calls Tryz.prog 91 #[.slice (some ⟨b, 0, none⟩) 3 3] w fun e w' => OwnU w (l1 ++ l2 ++ l3) e w' := by
 have S1 := Lib.hid s1
 have i1 : (0 : Int) ≤ (l1.length : Int) := Int.natCast_nonneg _
 have j1 : (l1.length : Int) ≤ 100 := by omega
 have S2 := Lib.hid s2
 have i2 : (0 : Int) ≤ (l2.length : Int) := Int.natCast_nonneg _
 have j2 : (l2.length : Int) ≤ 100 := by omega
 have S3 := Lib.hid s3
 have i3 : (0 : Int) ≤ (l3.length : Int) := Int.natCast_nonneg _
 have j3 : (l3.length : Int) ≤ 100 := by omega
 have i12 : (l1.length : Int) + (l2.length : Int) ≤ 200 := by omega
 have i123 : (l1.length : Int) + (l2.length : Int) + (l3.length : Int) ≤ 300 := by omega
 have C0 := Lib.hid c00
 have C1 := Lib.hid c01
 have C2 := Lib.hid c02
 have HB := Lib.hid hb
 obtain ⟨i0, hi, hz, hs0, hb0⟩ := info_parts info_u
 have IF := Lib.hid (And.intro hi (And.intro hz (And.intro hs0 hb0)))
 clear hi hz hs0 hb0
 clear s1 s2 s3 hb
 go_enter Tryz.func91, Tryz.ntmps91
 go_wp2_with fail
 refine wp_loop_rounds 4 ?_
 rw [rounds_succ]
 go_wp2_with fail
 rw [rounds_succ]
 go_wp2_with fail
 rw [rounds_succ]
 go_wp2_with fail
 rw [rounds_succ]
 go_wp2_with fail
 refine (grow_u (l1.length + l2.length + l3.length) _ (by simp) _ (by omega)).mono ?_
 rintro e w1 ⟨v1, rfl, hown, hbel⟩
 have B1 := Lib.hid hbel
 have H1 := Lib.hid hown
 clear hown hbel c00 c01 c02
 have d0 := (B1.out.cell (p := ⟨b, 0, none⟩) HB.out).trans C0.out
 have d1 := (B1.out.cell (p := ⟨b, 1, none⟩) HB.out).trans C1.out
 have d2 := (B1.out.cell (p := ⟨b, 2, none⟩) HB.out).trans C2.out
 go_wp2_with fail
 refine wp_loop_rounds 4 ?_
 rw [rounds_succ]
 have O0 := Lib.hid ((S1.out.below B1.out).olds p1 rfl)
 go_wp2_with (at_builtin; refine wpList_append_own _ rfl _ _ 39 rfl w.heap.size 50 i0 _ 4 32 (by kernel_rfl) IF.out.1 IF.out.2.1 IF.out.2.2.1 IF.out.2.2.2 rfl (by decide) v1 (0) ([]) rfl H1.out p1 l1.length c1 (flatT usL l1) rfl (flatT_len l1) O0.out flatT_cell ?qc4 ?qc5 ?qc6 ?_)
 case qc4 => unfold maxLen; omega
 case qc5 => omega
 case qc6 => exact B1.out.size
 intro v2 w2 hown hgrow hnil
 have B2 := Lib.hid (B1.out.grown hgrow B1.out.size (fun k hk => (H1.out.lt k hk).1))
 (try rw [Nat.zero_add] at hown); (try rw [List.nil_append] at hown)
 have H2 := Lib.hid hown
 clear hown hgrow hnil d0 d1 d2
 have d0 := (B2.out.cell (p := ⟨b, 0, none⟩) HB.out).trans C0.out
 have d1 := (B2.out.cell (p := ⟨b, 1, none⟩) HB.out).trans C1.out
 have d2 := (B2.out.cell (p := ⟨b, 2, none⟩) HB.out).trans C2.out
 go_wp2_with fail
 rw [rounds_succ]
 have O1 := Lib.hid ((S2.out.below B2.out).olds p2 rfl)
 go_wp2_with (at_builtin; refine wpList_append_own _ rfl _ _ 39 rfl w.heap.size 50 i0 _ 4 32 (by kernel_rfl) IF.out.1 IF.out.2.1 IF.out.2.2.1 IF.out.2.2.2 rfl (by decide) v2 (l1.length) (flatT usL l1) rfl H2.out p2 l2.length c2 (flatT usL l2) rfl (flatT_len l2) O1.out flatT_cell ?qc4 ?qc5 ?qc6 ?_)
 case qc4 => unfold maxLen; omega
 case qc5 => omega
 case qc6 => exact B2.out.size
 intro v3 w3 hown hgrow hnil
 have B3 := Lib.hid (B2.out.grown hgrow B2.out.size (fun k hk => (H2.out.lt k hk).1))
 skip
 have H3 := Lib.hid hown
 clear hown hgrow hnil d0 d1 d2
 have d0 := (B3.out.cell (p := ⟨b, 0, none⟩) HB.out).trans C0.out
 have d1 := (B3.out.cell (p := ⟨b, 1, none⟩) HB.out).trans C1.out
 have d2 := (B3.out.cell (p := ⟨b, 2, none⟩) HB.out).trans C2.out
 go_wp2_with fail
 rw [rounds_succ]
 have O2 := Lib.hid ((S3.out.below B3.out).olds p3 rfl)
 go_wp2_with (at_builtin; refine wpList_append_own _ rfl _ _ 39 rfl w.heap.size 50 i0 _ 4 32 (by kernel_rfl) IF.out.1 IF.out.2.1 IF.out.2.2.1 IF.out.2.2.2 rfl (by decide) v3 (l1.length + l2.length) (flatT usL l1 ++ flatT usL l2) rfl H3.out p3 l3.length c3 (flatT usL l3) rfl (flatT_len l3) O2.out flatT_cell ?qc4 ?qc5 ?qc6 ?_)
 case qc4 => unfold maxLen; omega
 case qc5 => omega
 case qc6 => exact B3.out.size
 intro v4 w4 hown hgrow hnil
 have B4 := Lib.hid (B3.out.grown hgrow B3.out.size (fun k hk => (H3.out.lt k hk).1))
 skip
 have H4 := Lib.hid hown
 clear hown hgrow hnil d0 d1 d2
 have d0 := (B4.out.cell (p := ⟨b, 0, none⟩) HB.out).trans C0.out
 have d1 := (B4.out.cell (p := ⟨b, 1, none⟩) HB.out).trans C1.out
 have d2 := (B4.out.cell (p := ⟨b, 2, none⟩) HB.out).trans C2.out
 go_wp2_with fail
 rw [rounds_succ]
 go_wp2
 go_ret
 exact ⟨v4, rfl, by have := H4.out; simpa [flatT_append, List.length_append, Nat.add_assoc] using this, B4.out⟩
set_option maxRecDepth 100000 in
set_option maxHeartbeats 2000000 in
theorem cat0_u (b : Nat) (p2 : Addr) (c2 : Nat) (l2 : List Us) (w : World) (hb : b < w.heap.size) (c00 : w.cell? ⟨b, 0, none⟩ = some (.slice none 0 0)) (c01 : w.cell? ⟨b, 1, none⟩ = some (.slice (some p2) l2.length c2)) (c02 : w.cell? ⟨b, 2, none⟩ = some (.slice none 0 0)) (s2 : SlU w (.slice (some p2) l2.length c2) l2) (n2 : l2.length ≤ 100) :
  Calls Tryz.prog 91 #[.slice (some ⟨b, 0, none⟩) 3 3] w fun e w' => OwnU w (l2) e w' := by
 have S2 := Lib.hid s2
 have i2 : (0 : Int) ≤ (l2.length : Int) := Int.natCast_nonneg _
 have j2 : (l2.length : Int) ≤ 100 := by omega
 have C0 := Lib.hid c00
 have C1 := Lib.hid c01
 have C2 := Lib.hid c02
 have HB := Lib.hid hb
 obtain ⟨i0, hi, hz, hs0, hb0⟩ := info_parts info_u
 have IF := Lib.hid (And.intro hi (And.intro hz (And.intro hs0 hb0)))
 clear hi hz hs0 hb0
 clear s2 hb
 go_enter Tryz.func91, Tryz.ntmps91
 go_wp2_with fail
 refine wp_loop_rounds 4 ?_
 rw [rounds_succ]
 go_wp2_with fail
 rw [rounds_succ]
 go_wp2_with fail
 rw [rounds_succ]
 go_wp2_with fail
 rw [rounds_succ]
 go_wp2_with fail
 refine (grow_u (l2.length) _ (by simp) _ (by omega)).mono ?_
 rintro e w1 ⟨v1, rfl, hown, hbel⟩
 have B1 := Lib.hid hbel
 have H1 := Lib.hid hown
 clear hown hbel c00 c01 c02
 have d0 := (B1.out.cell (p := ⟨b, 0, none⟩) HB.out).trans C0.out
 have d1 := (B1.out.cell (p := ⟨b, 1, none⟩) HB.out).trans C1.out
 have d2 := (B1.out.cell (p := ⟨b, 2, none⟩) HB.out).trans C2.out
 go_wp2_with fail
 refine wp_loop_rounds 4 ?_
 rw [rounds_succ]
 go_wp2_with (at_builtin; refine wpList_append_own_none rfl _ _ 39 rfl w.heap.size 50 i0 4 (by kernel_rfl) IF.out.1 v1 (0) ([]) rfl H1.out rfl ?_)
 rw [rounds_succ]
 have O1 := Lib.hid ((S2.out.below B1.out).olds p2 rfl)
 go_wp2_with (at_builtin; refine wpList_append_own _ rfl _ _ 39 rfl w.heap.size 50 i0 _ 4 32 (by kernel_rfl) IF.out.1 IF.out.2.1 IF.out.2.2.1 IF.out.2.2.2 rfl (by decide) v1 (0) ([]) rfl H1.out p2 l2.length c2 (flatT usL l2) rfl (flatT_len l2) O1.out flatT_cell ?qc4 ?qc5 ?qc6 ?_)
 case qc4 => unfold maxLen; omega
 case qc5 => omega
 case qc6 => exact B1.out.size
 intro v2 w2 hown hgrow hnil
 have B2 := Lib.hid (B1.out.grown hgrow B1.out.size (fun k hk => (H1.out.lt k hk).1))
 (try rw [Nat.zero_add] at hown); (try rw [List.nil_append] at hown)
 have H2 := Lib.hid hown
 clear hown hgrow hnil d0 d1 d2
 have d0 := (B2.out.cell (p := ⟨b, 0, none⟩) HB.out).trans C0.out
 have d1 := (B2.out.cell (p := ⟨b, 1, none⟩) HB.out).trans C1.out
 have d2 := (B2.out.cell (p := ⟨b, 2, none⟩) HB.out).trans C2.out
 go_wp2_with fail
 rw [rounds_succ]
 go_wp2_with (at_builtin; refine wpList_append_own_none rfl _ _ 39 rfl w.heap.size 50 i0 4 (by kernel_rfl) IF.out.1 v2 (l2.length) (flatT usL l2) rfl H2.out rfl ?_)
 rw [rounds_succ]
 go_wp2
 go_ret
 exact ⟨v2, rfl, by have := H2.out; simpa [flatT_append, List.length_append, Nat.add_assoc] using this, B2.out⟩
theorem catn_u (b : Nat) (p1 p2 p3 : Addr) (n1 n2 n3 c1 c2 c3 : Nat) (l1 l2 l3 : List Us) (w : World) (hb : b < w.heap.size) (e1 : l1.length = n1) (e2 : l2.length = n2) (e3 : l3.length = n3) (c00 : w.cell? ⟨b, 0, none⟩ = some (.slice (some p1) n1 c1)) (c01 : w.cell? ⟨b, 1, none⟩ = some (.slice (some p2) n2 c2)) (c02 : w.cell? ⟨b, 2, none⟩ = some (.slice (some p3) n3 c3))
  (s1 : SlU w (.slice (some p1) n1 c1) l1) (s2 : SlU w (.slice (some p2) n2 c2) l2) (s3 : SlU w (.slice (some p3) n3 c3) l3) (m1 : n1 ≤ 100) (m2 : n2 ≤ 100) (m3 : n3 ≤ 100) :
  Calls Tryz.prog 91 #[.slice (some ⟨b, 0, none⟩) 3 3] w fun e w' => OwnU w (l1 ++ l2 ++ l3) e w' := by
 subst e1 e2 e3
 exact cat_u b p1 c1 l1 p2 c2 l2 p3 c3 l3 w hb c00 c01 c02 s1 m1 s2 m2 s3 m3
theorem grow0_g (w : World) : Calls Tryz.prog 115 #[.slice none 0 0, .int .i64 0] w fun e w' => OwnG w [] e w' := by
 go_enter Tryz.func115, Tryz.ntmps115
 go_wp2
 go_ret
 exact ⟨_, rfl, World.ownsRow_nil _ _ _ _, Below.refl _ _⟩
set_option maxRecDepth 100000 in
set_option maxHeartbeats 2000000 in
theorem grow1_g (n : Nat) (w : World) (h1 : 0 < n) (h2 : n ≤ 1000) : Calls Tryz.prog 115 #[.slice none 0 0, .int .i64 n] w fun e w' => OwnG w [] e w' := by
 obtain ⟨i0, hi, hz, hs0, hb0⟩ := info_parts info_g
 obtain ⟨z, hzz⟩ : ∃ z, z = Value.agg #[.int .i64 0, .int .i64 0, .int .i64 0, .int .i64 0, .int .i64 0] := ⟨_, rfl⟩
 rw [← hzz] at hz
 have hzs : z.cells.size = 5 := by rw [hzz]; rfl
 clear hzz
 have hrz : ∀ ty, (Builtin.append_ #[40, 3] ty #[.slice none 0 0, .int .i64 (n : Int)]).run Tryz.prog w =
   .ok (.slice (some ⟨w.heap.size, 0, none⟩) n (grownCap w n 0 52)) (w.drew.alloc (.cells (#[] ++ Builtin.zeroCells z.cells n ++ Builtin.zeroCells z.cells (grownCap w n 0 52 - n)) 52)) := fun ty => by
  have h := Lib.run_append_grow_zeros w 40 3 ty 52 i0 z .i64 .i64 (by kernel_rfl) (by kernel_rfl) hi hz none 0 0 [] (run_firstCells_none w.drew i0.size 0 0 0) n (by omega) (by omega) (by omega) (by omega) (by rw [hb0]; omega) (by rw [Nat.zero_add]; exact growslice_fits (by omega) (by rw [hb0]; omega))
  simpa using h
 have hGn : n ≤ grownCap w n 0 52 := grownCap_ge w _ _ _
 have hGm : grownCap w n 0 52 ≤ maxLen := grownCap_le_maxLen w n 0 _ (by unfold maxLen; omega)
 obtain ⟨G, hG⟩ : ∃ G, G = grownCap w n 0 52 := ⟨_, rfl⟩
 rw [← hG] at hrz hGn hGm
 have HM := Lib.hid hGm
 obtain ⟨CS, hCS⟩ : ∃ CS, CS = (#[] ++ Builtin.zeroCells z.cells n ++ Builtin.zeroCells z.cells (G - n)) := ⟨_, rfl⟩
 have HZ := Lib.hid (show CS.size = G * 5 by rw [hCS]; simp only [Array.size_append, size_zeroCells, hzs, List.size_toArray, List.length_nil]; omega)
 rw [← hCS] at hrz
 unfold maxLen at hGm
 clear hG hzs hCS hz hi hs0 hb0
 go_enter Tryz.func115, Tryz.ntmps115
 go_wp2_with (at_builtin; refine Lib.wpList_append_run _ rfl _ _ _ _ rfl _ _ rfl rfl _ _ (hrz _) ?_)
 all_goals (go_ret; exact ⟨_, rfl, World.ownsRow_made w.drew _ G (Nat.le_refl _) HM.out HZ.out, (Below.refl _ w).drew.alloc (Nat.le_refl _) _⟩)
theorem grow_g (n : Nat) (x : Int) (hx : x = n) (w : World) (h2 : n ≤ 1000) : Calls Tryz.prog 115 #[.slice none 0 0, .int .i64 x] w fun e w' => OwnG w [] e w' := by
 subst hx
 rcases Nat.eq_zero_or_pos n with rfl | h
 ·exact grow0_g w
 ·exact grow1_g n w h h2
set_option maxRecDepth 100000 in
set_option maxHeartbeats 2000000 in
theorem cat_g (b : Nat) (p1 : Addr) (c1 : Nat) (l1 : List Gr) (p2 : Addr) (c2 : Nat) (l2 : List Gr) (p3 : Addr) (c3 : Nat) (l3 : List Gr) (w : World) (hb : b < w.heap.size) (c00 : w.cell? ⟨b, 0, none⟩ = some (.slice (some p1) l1.length c1)) (c01 : w.cell? ⟨b, 1, none⟩ = some (.slice (some p2) l2.length c2)) (c02 : w.cell? ⟨b, 2, none⟩ = some (.slice (some p3) l3.length c3)) (s1 : SlG w (.slice (some p1) l1.length c1) l1) (n1 : l1.length ≤ 100) (s2 : SlG w (.slice (some p2) l2.length c2) l2) (n2 : l2.length ≤ 100) (s3 : SlG w (.slice (some p3) l3.length c3) l3) (n3 : l3.length ≤ 100) :
  Calls Tryz.prog 99 #[.slice (some ⟨b, 0, none⟩) 3 3] w fun e w' => OwnG w (l1 ++ l2 ++ l3) e w' := by
 have S1 := Lib.hid s1
 have i1 : (0 : Int) ≤ (l1.length : Int) := Int.natCast_nonneg _
 have j1 : (l1.length : Int) ≤ 100 := by omega
 have S2 := Lib.hid s2
 have i2 : (0 : Int) ≤ (l2.length : Int) := Int.natCast_nonneg _
 have j2 : (l2.length : Int) ≤ 100 := by omega
 have S3 := Lib.hid s3
 have i3 : (0 : Int) ≤ (l3.length : Int) := Int.natCast_nonneg _
 have j3 : (l3.length : Int) ≤ 100 := by omega
 have i12 : (l1.length : Int) + (l2.length : Int) ≤ 200 := by omega
 have i123 : (l1.length : Int) + (l2.length : Int) + (l3.length : Int) ≤ 300 := by omega
 have C0 := Lib.hid c00
 have C1 := Lib.hid c01
 have C2 := Lib.hid c02
 have HB := Lib.hid hb
 obtain ⟨i0, hi, hz, hs0, hb0⟩ := info_parts info_g
 have IF := Lib.hid (And.intro hi (And.intro hz (And.intro hs0 hb0)))
 clear hi hz hs0 hb0
 clear s1 s2 s3 hb
 go_enter Tryz.func99, Tryz.ntmps99
 go_wp2_with fail
 refine wp_loop_rounds 4 ?_
 rw [rounds_succ]
 go_wp2_with fail
 rw [rounds_succ]
 go_wp2_with fail
 rw [rounds_succ]
 go_wp2_with fail
 rw [rounds_succ]
 go_wp2_with fail
 refine (grow_g (l1.length + l2.length + l3.length) _ (by simp) _ (by omega)).mono ?_
 rintro e w1 ⟨v1, rfl, hown, hbel⟩
 have B1 := Lib.hid hbel
 have H1 := Lib.hid hown
 clear hown hbel c00 c01 c02
 have d0 := (B1.out.cell (p := ⟨b, 0, none⟩) HB.out).trans C0.out
 have d1 := (B1.out.cell (p := ⟨b, 1, none⟩) HB.out).trans C1.out
 have d2 := (B1.out.cell (p := ⟨b, 2, none⟩) HB.out).trans C2.out
 go_wp2_with fail
 refine wp_loop_rounds 4 ?_
 rw [rounds_succ]
 have O0 := Lib.hid ((S1.out.below B1.out).olds p1 rfl)
 go_wp2_with (at_builtin; refine wpList_append_own _ rfl _ _ 40 rfl w.heap.size 52 i0 _ 5 40 (by kernel_rfl) IF.out.1 IF.out.2.1 IF.out.2.2.1 IF.out.2.2.2 rfl (by decide) v1 (0) ([]) rfl H1.out p1 l1.length c1 (flatT grL l1) rfl (flatT_len l1) O0.out flatT_cell ?qc4 ?qc5 ?qc6 ?_)
 case qc4 => unfold maxLen; omega
 case qc5 => omega
 case qc6 => exact B1.out.size
 intro v2 w2 hown hgrow hnil
 have B2 := Lib.hid (B1.out.grown hgrow B1.out.size (fun k hk => (H1.out.lt k hk).1))
 (try rw [Nat.zero_add] at hown); (try rw [List.nil_append] at hown)
 have H2 := Lib.hid hown
 clear hown hgrow hnil d0 d1 d2
 have d0 := (B2.out.cell (p := ⟨b, 0, none⟩) HB.out).trans C0.out
 have d1 := (B2.out.cell (p := ⟨b, 1, none⟩) HB.out).trans C1.out
 have d2 := (B2.out.cell (p := ⟨b, 2, none⟩) HB.out).trans C2.out
 go_wp2_with fail
 rw [rounds_succ]
 have O1 := Lib.hid ((S2.out.below B2.out).olds p2 rfl)
 go_wp2_with (at_builtin; refine wpList_append_own _ rfl _ _ 40 rfl w.heap.size 52 i0 _ 5 40 (by kernel_rfl) IF.out.1 IF.out.2.1 IF.out.2.2.1 IF.out.2.2.2 rfl (by decide) v2 (l1.length) (flatT grL l1) rfl H2.out p2 l2.length c2 (flatT grL l2) rfl (flatT_len l2) O1.out flatT_cell ?qc4 ?qc5 ?qc6 ?_)
 case qc4 => unfold maxLen; omega
 case qc5 => omega
 case qc6 => exact B2.out.size
 intro v3 w3 hown hgrow hnil
 have B3 := Lib.hid (B2.out.grown hgrow B2.out.size (fun k hk => (H2.out.lt k hk).1))
 skip
 have H3 := Lib.hid hown
 clear hown hgrow hnil d0 d1 d2
 have d0 := (B3.out.cell (p := ⟨b, 0, none⟩) HB.out).trans C0.out
 have d1 := (B3.out.cell (p := ⟨b, 1, none⟩) HB.out).trans C1.out
 have d2 := (B3.out.cell (p := ⟨b, 2, none⟩) HB.out).trans C2.out
 go_wp2_with fail
 rw [rounds_succ]
 have O2 := Lib.hid ((S3.out.below B3.out).olds p3 rfl)
 go_wp2_with (at_builtin; refine wpList_append_own _ rfl _ _ 40 rfl w.heap.size 52 i0 _ 5 40 (by kernel_rfl) IF.out.1 IF.out.2.1 IF.out.2.2.1 IF.out.2.2.2 rfl (by decide) v3 (l1.length + l2.length) (flatT grL l1 ++ flatT grL l2) rfl H3.out p3 l3.length c3 (flatT grL l3) rfl (flatT_len l3) O2.out flatT_cell ?qc4 ?qc5 ?qc6 ?_)
 case qc4 => unfold maxLen; omega
 case qc5 => omega
 case qc6 => exact B3.out.size
 intro v4 w4 hown hgrow hnil
 have B4 := Lib.hid (B3.out.grown hgrow B3.out.size (fun k hk => (H3.out.lt k hk).1))
 skip
 have H4 := Lib.hid hown
 clear hown hgrow hnil d0 d1 d2
 have d0 := (B4.out.cell (p := ⟨b, 0, none⟩) HB.out).trans C0.out
 have d1 := (B4.out.cell (p := ⟨b, 1, none⟩) HB.out).trans C1.out
 have d2 := (B4.out.cell (p := ⟨b, 2, none⟩) HB.out).trans C2.out
 go_wp2_with fail
 rw [rounds_succ]
 go_wp2
 go_ret
 exact ⟨v4, rfl, by have := H4.out; simpa [flatT_append, List.length_append, Nat.add_assoc] using this, B4.out⟩
set_option maxRecDepth 100000 in
set_option maxHeartbeats 2000000 in
theorem cat0_g (b : Nat) (p2 : Addr) (c2 : Nat) (l2 : List Gr) (w : World) (hb : b < w.heap.size) (c00 : w.cell? ⟨b, 0, none⟩ = some (.slice none 0 0)) (c01 : w.cell? ⟨b, 1, none⟩ = some (.slice (some p2) l2.length c2)) (c02 : w.cell? ⟨b, 2, none⟩ = some (.slice none 0 0)) (s2 : SlG w (.slice (some p2) l2.length c2) l2) (n2 : l2.length ≤ 100) :
  Calls Tryz.prog 99 #[.slice (some ⟨b, 0, none⟩) 3 3] w fun e w' => OwnG w (l2) e w' := by
 have S2 := Lib.hid s2
 have i2 : (0 : Int) ≤ (l2.length : Int) := Int.natCast_nonneg _
 have j2 : (l2.length : Int) ≤ 100 := by omega
 have C0 := Lib.hid c00
 have C1 := Lib.hid c01
 have C2 := Lib.hid c02
 have HB := Lib.hid hb
 obtain ⟨i0, hi, hz, hs0, hb0⟩ := info_parts info_g
 have IF := Lib.hid (And.intro hi (And.intro hz (And.intro hs0 hb0)))
 clear hi hz hs0 hb0
 clear s2 hb
 go_enter Tryz.func99, Tryz.ntmps99
 go_wp2_with fail
 refine wp_loop_rounds 4 ?_
 rw [rounds_succ]
 go_wp2_with fail
 rw [rounds_succ]
 go_wp2_with fail
 rw [rounds_succ]
 go_wp2_with fail
 rw [rounds_succ]
 go_wp2_with fail
 refine (grow_g (l2.length) _ (by simp) _ (by omega)).mono ?_
 rintro e w1 ⟨v1, rfl, hown, hbel⟩
 have B1 := Lib.hid hbel
 have H1 := Lib.hid hown
 clear hown hbel c00 c01 c02
 have d0 := (B1.out.cell (p := ⟨b, 0, none⟩) HB.out).trans C0.out
 have d1 := (B1.out.cell (p := ⟨b, 1, none⟩) HB.out).trans C1.out
 have d2 := (B1.out.cell (p := ⟨b, 2, none⟩) HB.out).trans C2.out
 go_wp2_with fail
 refine wp_loop_rounds 4 ?_
 rw [rounds_succ]
 go_wp2_with (at_builtin; refine wpList_append_own_none rfl _ _ 40 rfl w.heap.size 52 i0 5 (by kernel_rfl) IF.out.1 v1 (0) ([]) rfl H1.out rfl ?_)
 rw [rounds_succ]
 have O1 := Lib.hid ((S2.out.below B1.out).olds p2 rfl)
 go_wp2_with (at_builtin; refine wpList_append_own _ rfl _ _ 40 rfl w.heap.size 52 i0 _ 5 40 (by kernel_rfl) IF.out.1 IF.out.2.1 IF.out.2.2.1 IF.out.2.2.2 rfl (by decide) v1 (0) ([]) rfl H1.out p2 l2.length c2 (flatT grL l2) rfl (flatT_len l2) O1.out flatT_cell ?qc4 ?qc5 ?qc6 ?_)
 case qc4 => unfold maxLen; omega
 case qc5 => omega
 case qc6 => exact B1.out.size
 intro v2 w2 hown hgrow hnil
 have B2 := Lib.hid (B1.out.grown hgrow B1.out.size (fun k hk => (H1.out.lt k hk).1))
 (try rw [Nat.zero_add] at hown); (try rw [List.nil_append] at hown)
 have H2 := Lib.hid hown
 clear hown hgrow hnil d0 d1 d2
 have d0 := (B2.out.cell (p := ⟨b, 0, none⟩) HB.out).trans C0.out
 have d1 := (B2.out.cell (p := ⟨b, 1, none⟩) HB.out).trans C1.out
 have d2 := (B2.out.cell (p := ⟨b, 2, none⟩) HB.out).trans C2.out
 go_wp2_with fail
 rw [rounds_succ]
 go_wp2_with (at_builtin; refine wpList_append_own_none rfl _ _ 40 rfl w.heap.size 52 i0 5 (by kernel_rfl) IF.out.1 v2 (l2.length) (flatT grL l2) rfl H2.out rfl ?_)
 rw [rounds_succ]
 go_wp2
 go_ret
 exact ⟨v2, rfl, by have := H2.out; simpa [flatT_append, List.length_append, Nat.add_assoc] using this, B2.out⟩
theorem catn_g (b : Nat) (p1 p2 p3 : Addr) (n1 n2 n3 c1 c2 c3 : Nat) (l1 l2 l3 : List Gr) (w : World) (hb : b < w.heap.size) (e1 : l1.length = n1) (e2 : l2.length = n2) (e3 : l3.length = n3) (c00 : w.cell? ⟨b, 0, none⟩ = some (.slice (some p1) n1 c1)) (c01 : w.cell? ⟨b, 1, none⟩ = some (.slice (some p2) n2 c2)) (c02 : w.cell? ⟨b, 2, none⟩ = some (.slice (some p3) n3 c3))
  (s1 : SlG w (.slice (some p1) n1 c1) l1) (s2 : SlG w (.slice (some p2) n2 c2) l2) (s3 : SlG w (.slice (some p3) n3 c3) l3) (m1 : n1 ≤ 100) (m2 : n2 ≤ 100) (m3 : n3 ≤ 100) :
  Calls Tryz.prog 99 #[.slice (some ⟨b, 0, none⟩) 3 3] w fun e w' => OwnG w (l1 ++ l2 ++ l3) e w' := by
 subst e1 e2 e3
 exact cat_g b p1 c1 l1 p2 c2 l2 p3 c3 l3 w hb c00 c01 c02 s1 m1 s2 m2 s3 m3
end Go.Proofs.YtmopiifamopidaaGreat
end
section
namespace Go.Proofs.YtmopiifamopidaaGreat
open Go.RowKit
theorem slt_plain {α : Type} {L : Lay α} {w : World} {b off n cap : Nat} {fo : Option Nat} {l : List α} (h : SlT L w (.slice (some ⟨b, off, fo⟩) n cap) l) (hl : 0 < l.length) : fo = none := by
 obtain ⟨_, _, _, _, h2, _⟩ := h.at (Below.refl _ _) hl
 injection h2 with h2
 injection h2
theorem slt_n0 {α : Type} {L : Lay α} {w : World} {p : Option Addr} {n c : Nat} {l : List α} (h : SlT L w (.slice p n c) l) (hn : n = 0) : SlT L w (.slice p 0 c) l := by subst hn; exact h
theorem slt_new {α : Type} {L : Lay α} (a : α) {w : World} {b : Nat} {t : TypeId} (o : Own w b (L.f a) t) : SlT L w (.slice (some ⟨b, 0, none⟩) [a].length 1) [a] := by
 have h : w.ownsRow b t L.k (.slice (some ⟨b, 0, none⟩) 1 1) 1 (flatT L [a]) := by
  refine ⟨by rw [flatT_len]; rfl, Or.inr ⟨b, 1, (L.f a).toArray, rfl, Nat.le_refl _, o, Nat.le_refl _, by unfold maxLen; omega, ?_, ?_⟩⟩
  ·simp [L.len]
  ·rw [flatT_one, show 1 * L.k = (L.f a).length by rw [L.len]; omega]; simp
 exact slt_of_own h
theorem slt_none0 {α : Type} {L : Lay α} (w : World) (p : Option Addr) : SlT L w (.slice p 0 0) [] := ⟨p, 0, rfl, Nat.le_refl _, by unfold maxLen; omega, fun _ => rfl, fun i r h => by simp at h⟩
set_option maxRecDepth 100000 in
set_option maxHeartbeats 2000000 in
theorem ins_mid1_u (b off cap : Nat) (l : List Us) (x : Us) (w : World) (sl : SlU w (.slice (some ⟨b, off, none⟩) l.length cap) l) (h70 : l.length ≤ 70) (hlc : l.length ≤ cap) (hcm : cap ≤ maxLen) (hkc : l.length < cap) (hi : idxD (fun d : Us => decide (x.s < d.s)) l = -1) : Calls Tryz.prog 56 #[.slice (some ⟨b, off, none⟩) l.length cap, .agg #[.int .i64 x.s, .int .i64 x.o, .int .i64 x.p, .int .i64 x.m], .func (.func 57) #[] #[]] w fun e w' => RetU w (l.take l.length ++ x :: l.drop l.length) e w' := by
 have k0 : (0 : Int) ≤ (l.length : Int) := Int.natCast_nonneg _
 have k1 : (l.length : Int) ≤ (l.length : Int) := by omega
 have k2 : (l.length : Int) ≤ (cap : Int) := by omega
 have k4 : (l.length : Int) ≤ (cap : Int) := by omega
 have k5 : (l.length : Int) ≤ 70 := by omega
 have k6 : (l.length : Int) < (cap : Int) := by omega
 have k7 : ¬ cap = l.length := by omega
 unfold maxLen at hcm
 have BW := Lib.hid (show Below w.heap.size w ((w.alloc (.cells #[.int .i64 x.s, .int .i64 x.o, .int .i64 x.p, .int .i64 x.m] 50)).alloc (.cells #[.func (.func 57) #[] #[]] 130)) from ((Below.refl _ _).alloc (Nat.le_refl _) _).alloc (by simp) _)
 have SL := Lib.hid (sl.below BW.out)
 have oX := Lib.hid (Own.alloc (own_at (w := w) [.int .i64 x.s, .int .i64 x.o, .int .i64 x.p, .int .i64 x.m] 50 rfl) (.cells #[.func (.func 57) #[] #[]] 130))
 have oA := Lib.hid (own_at (w := w.alloc (.cells #[.int .i64 x.s, .int .i64 x.o, .int .i64 x.p, .int .i64 x.m] 50)) (n := w.heap.size + 1) [.func (.func 57) #[] #[]] 130 (by simp))
 have HI := Lib.hid hi
 have HQ := Lib.hid (show ∀ (d : Us) (wx : World), Below ((w.alloc (.cells #[.int .i64 x.s, .int .i64 x.o, .int .i64 x.p, .int .i64 x.m] 50)).alloc (.cells #[.func (.func 57) #[] #[]] 130)).heap.size ((w.alloc (.cells #[.int .i64 x.s, .int .i64 x.o, .int .i64 x.p, .int .i64 x.m] 50)).alloc (.cells #[.func (.func 57) #[] #[]] 130)) wx → Calls Tryz.prog 90 #[.agg #[.int .i64 d.s, .int .i64 d.o, .int .i64 d.p, .int .i64 d.m], .pointer (some ⟨(w.heap.size + 1), 0, none⟩), .pointer (some ⟨w.heap.size, 0, none⟩)] wx fun e w' => e = .returned (.bool ((fun d : Us => decide (x.s < d.s)) d)) ∧ Below wx.heap.size wx w' from fun d wx hbx => insu_any (w.heap.size + 1) w.heap.size x d wx (Nat.lt_of_lt_of_le (by first | omega | (simp; done) | (simp; omega)) hbx.size) (Nat.lt_of_lt_of_le (by first | omega | (simp; done) | (simp; omega)) hbx.size) ((hbx.cell (p := ⟨w.heap.size + 1, 0, none⟩) (by first | omega | (simp; done) | (simp; omega))).trans (oA.out.cell (i := 0) rfl)) ((hbx.cell (p := ⟨w.heap.size, 0, none⟩) (by first | omega | (simp; done) | (simp; omega))).trans (oX.out.cell (i := 0) rfl)) ((hbx.cell (p := ⟨w.heap.size, 1, none⟩) (by first | omega | (simp; done) | (simp; omega))).trans (oX.out.cell (i := 1) rfl)) ((hbx.cell (p := ⟨w.heap.size, 2, none⟩) (by first | omega | (simp; done) | (simp; omega))).trans (oX.out.cell (i := 2) rfl)) ((hbx.cell (p := ⟨w.heap.size, 3, none⟩) (by first | omega | (simp; done) | (simp; omega))).trans (oX.out.cell (i := 3) rfl)))
 clear hi sl
 go_enter Tryz.func56, Tryz.ntmps56
 go_wp2_with (first | (go_at_call 89; refine (ix_insu_lit _ _ (w.heap.size + 1) w.heap.size (fun d : Us => decide (x.s < d.s)) ((w.alloc (.cells #[.int .i64 x.s, .int .i64 x.o, .int .i64 x.p, .int .i64 x.m] 50)).alloc (.cells #[.func (.func 57) #[] #[]] 130)).heap.size (-1) _ SL.out (Nat.le_refl _) HQ.out HI.out).mono ?_; rintro e w1 ⟨rfl, hb2⟩; have B1 := Lib.hid (belowTo BW.out hb2 BW.out.size); have X1 := Lib.hid (oX.out.below hb2); have S1 := Lib.hid (SL.out.below hb2); clear hb2; obtain ⟨x0, x1, x2, x3, _, _⟩ := own4 X1.out) | fail)
 have OXd := Lib.hid X1.out.drew
 have SD := Lib.hid (S1.out.below (Below.refl _ _).drew)
 have BD := Lib.hid B1.out.drew
 obtain ⟨y0, y1, y2, y3, _, _⟩ := own4 OXd.out
 clear oX oA SL
 refine region_H 11 #[false, false, false, false, false, false, false, false, false, false, false] (by kernel_rfl) (by kernel_rfl) (fun w' => w'.cell? ⟨w.heap.size, 0, none⟩ = some (.int .i64 x.s) ∧ w'.cell? ⟨w.heap.size, 1, none⟩ = some (.int .i64 x.o) ∧ w'.cell? ⟨w.heap.size, 2, none⟩ = some (.int .i64 x.p) ∧ w'.cell? ⟨w.heap.size, 3, none⟩ = some (.int .i64 x.m)) (by kernel_rfl) ?x1s (fun hHeld => ?x1r)
 case x1s => exact ⟨y0, y1, y2, y3⟩
 refine tH 0 15 ?_
 refine tH 1 16 ?_
 refine tH 2 17 ?_
 refine tH 3 18 ?_
 refine tH 5 20 ?_
 refine tH 6 21 ?_
 refine tH 7 22 ?_
 refine wpH_one (i := 4) (by kernel_rfl) rfl (fun K hK => ?_)
 rw [if_pos (by rfl)]
 go_simp
 have O4 := Lib.hid ((own_at (w := w1) [.int .i64 x.s, .int .i64 x.o, .int .i64 x.p, .int .i64 x.m] 50 rfl).drew)
 have B4 := Lib.hid ((B1.out.alloc B1.out.size (.cells #[.int .i64 x.s, .int .i64 x.o, .int .i64 x.p, .int .i64 x.m] 50)).drew)
 have S4 := Lib.hid ((S1.out.below (belowNew _ (.cells #[.int .i64 x.s, .int .i64 x.o, .int .i64 x.p, .int .i64 x.m] 50))).below (Below.refl _ _).drew)
 have X4 := Lib.hid ((X1.out.alloc (.cells #[.int .i64 x.s, .int .i64 x.o, .int .i64 x.p, .int .i64 x.m] 50)).drew)
 generalize (w1.alloc (.cells #[.int .i64 x.s, .int .i64 x.o, .int .i64 x.p, .int .i64 x.m] 50)).drew = wa at O4 B4 S4 X4 ⊢
 obtain ⟨z0, z1, z2, z3, _, _⟩ := own4 X4.out
 refine hK.out _ _ (⟨z0, z1, z2, z3⟩) ?_
 clear hK K hHeld
 intro hHeld
 try simp only [Act.put, List.setIfInBounds_toArray, List.set_cons_zero, List.set_cons_succ]
 refine wpH_one (i := 8) (by kernel_rfl) rfl (fun K hK => ?_)
 rw [if_pos (by rfl)]
 go_simp
 have O8 := Lib.hid (own_at (w := wa) [.slice (some ⟨b, off, none⟩) l.length cap, .slice (some ⟨w1.heap.size, 0, none⟩) 1 1, .slice (some ⟨b, off + l.length * 4, none⟩) 0 (cap - l.length)] 39 rfl)
 have E8 := Lib.hid (O4.out.alloc (.cells #[.slice (some ⟨b, off, none⟩) l.length cap, .slice (some ⟨w1.heap.size, 0, none⟩) 1 1, .slice (some ⟨b, off + l.length * 4, none⟩) 0 (cap - l.length)] 39))
 have B8 := Lib.hid (B4.out.alloc B4.out.size (.cells #[.slice (some ⟨b, off, none⟩) l.length cap, .slice (some ⟨w1.heap.size, 0, none⟩) 1 1, .slice (some ⟨b, off + l.length * 4, none⟩) 0 (cap - l.length)] 39))
 have S8 := Lib.hid (S4.out.below (belowNew _ (.cells #[.slice (some ⟨b, off, none⟩) l.length cap, .slice (some ⟨w1.heap.size, 0, none⟩) 1 1, .slice (some ⟨b, off + l.length * 4, none⟩) 0 (cap - l.length)] 39)))
 have X8 := Lib.hid (X4.out.alloc (.cells #[.slice (some ⟨b, off, none⟩) l.length cap, .slice (some ⟨w1.heap.size, 0, none⟩) 1 1, .slice (some ⟨b, off + l.length * 4, none⟩) 0 (cap - l.length)] 39))
 obtain ⟨u0, u1, u2, u3, _, _⟩ := own4 X8.out
 refine hK.out _ _ (⟨u0, u1, u2, u3⟩) ?_
 clear hK K hHeld
 intro hHeld
 try simp only [Act.put, List.setIfInBounds_toArray, List.set_cons_zero, List.set_cons_succ]
 refine wpH_one (i := 9) (by kernel_rfl) rfl (fun K hK => ?_)
 rw [if_pos (by rfl)]
 go_simp
 have FA := Lib.hid (show SlU (wa.alloc (.cells #[.slice (some ⟨b, off, none⟩) l.length cap, .slice (some ⟨w1.heap.size, 0, none⟩) 1 1, .slice (some ⟨b, off + l.length * 4, none⟩) 0 (cap - l.length)] 39)) (.slice (some ⟨b, off, none⟩) l.length cap) (l.take l.length) from S8.out.front (k := l.length) (c := cap) (by omega) (by omega) (Nat.le_refl _))
 have FB := Lib.hid (show SlU (wa.alloc (.cells #[.slice (some ⟨b, off, none⟩) l.length cap, .slice (some ⟨w1.heap.size, 0, none⟩) 1 1, .slice (some ⟨b, off + l.length * 4, none⟩) 0 (cap - l.length)] 39)) (.slice (some ⟨b, off + l.length * 4, none⟩) 0 (cap - l.length)) (l.drop l.length) from slt_n0 (S8.out.back (k := l.length)) (by omega))
 refine (catn_u wa.heap.size _ _ _ l.length 1 0 _ _ _ (l.take l.length) [x] (l.drop l.length) _ O8.out.lt (by first | rfl | (rw [List.length_take]; omega)) rfl (by first | rfl | ((rw [List.length_drop]; omega))) (O8.out.cell (i := 0) rfl) (O8.out.cell (i := 1) rfl) (O8.out.cell (i := 2) rfl) FA.out (slt_new (L := usL) x E8.out) FB.out (by omega) (by omega) (by omega)).mono ?_
 rintro e w9 ⟨v9, rfl, hown, hbb⟩
 have R9 := Lib.hid (slt_of_own (L := usL) hown)
 have B9 := Lib.hid (belowTo B8.out hbb B8.out.size)
 have X9 := Lib.hid (X8.out.below hbb)
 clear hown hbb
 obtain ⟨q0, q1, q2, q3, _, _⟩ := own4 X9.out
 refine hK.out _ _ (⟨q0, q1, q2, q3⟩) ?_
 clear hK K hHeld
 intro hHeld
 try simp only [Act.put, List.setIfInBounds_toArray, List.set_cons_zero, List.set_cons_succ]
 refine tH 10 6 ?_
 refine wpAnyH_done (by kernel_rfl) ?_ _
 go_wp2_with fail
 go_ret
 exact ⟨_, rfl, by simpa using R9.out, B9.out⟩
set_option maxRecDepth 100000 in
set_option maxHeartbeats 2000000 in
theorem ins_mid2_u (b off cap : Nat) (l : List Us) (x : Us) (w : World) (sl : SlU w (.slice (some ⟨b, off, none⟩) l.length cap) l) (h70 : l.length ≤ 70) (hlc : l.length ≤ cap) (hcm : cap ≤ maxLen) (kk : Nat) (hkl : kk < l.length) (hi : idxD (fun d : Us => decide (x.s < d.s)) l = (kk : Int)) : Calls Tryz.prog 56 #[.slice (some ⟨b, off, none⟩) l.length cap, .agg #[.int .i64 x.s, .int .i64 x.o, .int .i64 x.p, .int .i64 x.m], .func (.func 57) #[] #[]] w fun e w' => RetU w (l.take kk ++ x :: l.drop kk) e w' := by
 have k0 : (0 : Int) ≤ (kk : Int) := Int.natCast_nonneg _
 have k1 : (kk : Int) ≤ (l.length : Int) := by omega
 have k2 : (kk : Int) ≤ (cap : Int) := by omega
 have k4 : (l.length : Int) ≤ (cap : Int) := by omega
 have k5 : (l.length : Int) ≤ 70 := by omega
 have k6 : (kk : Int) < (cap : Int) := by omega
 have k7 : ¬ cap = kk := by omega
 unfold maxLen at hcm
 have BW := Lib.hid (show Below w.heap.size w ((w.alloc (.cells #[.int .i64 x.s, .int .i64 x.o, .int .i64 x.p, .int .i64 x.m] 50)).alloc (.cells #[.func (.func 57) #[] #[]] 130)) from ((Below.refl _ _).alloc (Nat.le_refl _) _).alloc (by simp) _)
 have SL := Lib.hid (sl.below BW.out)
 have oX := Lib.hid (Own.alloc (own_at (w := w) [.int .i64 x.s, .int .i64 x.o, .int .i64 x.p, .int .i64 x.m] 50 rfl) (.cells #[.func (.func 57) #[] #[]] 130))
 have oA := Lib.hid (own_at (w := w.alloc (.cells #[.int .i64 x.s, .int .i64 x.o, .int .i64 x.p, .int .i64 x.m] 50)) (n := w.heap.size + 1) [.func (.func 57) #[] #[]] 130 (by simp))
 have HI := Lib.hid hi
 have HQ := Lib.hid (show ∀ (d : Us) (wx : World), Below ((w.alloc (.cells #[.int .i64 x.s, .int .i64 x.o, .int .i64 x.p, .int .i64 x.m] 50)).alloc (.cells #[.func (.func 57) #[] #[]] 130)).heap.size ((w.alloc (.cells #[.int .i64 x.s, .int .i64 x.o, .int .i64 x.p, .int .i64 x.m] 50)).alloc (.cells #[.func (.func 57) #[] #[]] 130)) wx → Calls Tryz.prog 90 #[.agg #[.int .i64 d.s, .int .i64 d.o, .int .i64 d.p, .int .i64 d.m], .pointer (some ⟨(w.heap.size + 1), 0, none⟩), .pointer (some ⟨w.heap.size, 0, none⟩)] wx fun e w' => e = .returned (.bool ((fun d : Us => decide (x.s < d.s)) d)) ∧ Below wx.heap.size wx w' from fun d wx hbx => insu_any (w.heap.size + 1) w.heap.size x d wx (Nat.lt_of_lt_of_le (by first | omega | (simp; done) | (simp; omega)) hbx.size) (Nat.lt_of_lt_of_le (by first | omega | (simp; done) | (simp; omega)) hbx.size) ((hbx.cell (p := ⟨w.heap.size + 1, 0, none⟩) (by first | omega | (simp; done) | (simp; omega))).trans (oA.out.cell (i := 0) rfl)) ((hbx.cell (p := ⟨w.heap.size, 0, none⟩) (by first | omega | (simp; done) | (simp; omega))).trans (oX.out.cell (i := 0) rfl)) ((hbx.cell (p := ⟨w.heap.size, 1, none⟩) (by first | omega | (simp; done) | (simp; omega))).trans (oX.out.cell (i := 1) rfl)) ((hbx.cell (p := ⟨w.heap.size, 2, none⟩) (by first | omega | (simp; done) | (simp; omega))).trans (oX.out.cell (i := 2) rfl)) ((hbx.cell (p := ⟨w.heap.size, 3, none⟩) (by first | omega | (simp; done) | (simp; omega))).trans (oX.out.cell (i := 3) rfl)))
 clear hi sl
 go_enter Tryz.func56, Tryz.ntmps56
 go_wp2_with (first | (go_at_call 89; refine (ix_insu_lit _ _ (w.heap.size + 1) w.heap.size (fun d : Us => decide (x.s < d.s)) ((w.alloc (.cells #[.int .i64 x.s, .int .i64 x.o, .int .i64 x.p, .int .i64 x.m] 50)).alloc (.cells #[.func (.func 57) #[] #[]] 130)).heap.size ((kk : Int)) _ SL.out (Nat.le_refl _) HQ.out HI.out).mono ?_; rintro e w1 ⟨rfl, hb2⟩; have B1 := Lib.hid (belowTo BW.out hb2 BW.out.size); have X1 := Lib.hid (oX.out.below hb2); have S1 := Lib.hid (SL.out.below hb2); clear hb2; obtain ⟨x0, x1, x2, x3, _, _⟩ := own4 X1.out) | fail)
 have OXd := Lib.hid X1.out.drew
 have SD := Lib.hid (S1.out.below (Below.refl _ _).drew)
 have BD := Lib.hid B1.out.drew
 obtain ⟨y0, y1, y2, y3, _, _⟩ := own4 OXd.out
 clear oX oA SL
 refine region_H 11 #[false, false, false, false, false, false, false, false, false, false, false] (by kernel_rfl) (by kernel_rfl) (fun w' => w'.cell? ⟨w.heap.size, 0, none⟩ = some (.int .i64 x.s) ∧ w'.cell? ⟨w.heap.size, 1, none⟩ = some (.int .i64 x.o) ∧ w'.cell? ⟨w.heap.size, 2, none⟩ = some (.int .i64 x.p) ∧ w'.cell? ⟨w.heap.size, 3, none⟩ = some (.int .i64 x.m)) (by kernel_rfl) ?x13s (fun hHeld => ?x13r)
 case x13s => exact ⟨y0, y1, y2, y3⟩
 refine tH 0 15 ?_
 refine tH 1 16 ?_
 refine tH 2 17 ?_
 refine tH 3 18 ?_
 refine tH 5 20 ?_
 refine tH 6 21 ?_
 refine tH 7 22 ?_
 refine wpH_one (i := 4) (by kernel_rfl) rfl (fun K hK => ?_)
 rw [if_pos (by rfl)]
 go_simp
 have O4 := Lib.hid ((own_at (w := w1) [.int .i64 x.s, .int .i64 x.o, .int .i64 x.p, .int .i64 x.m] 50 rfl).drew)
 have B4 := Lib.hid ((B1.out.alloc B1.out.size (.cells #[.int .i64 x.s, .int .i64 x.o, .int .i64 x.p, .int .i64 x.m] 50)).drew)
 have S4 := Lib.hid ((S1.out.below (belowNew _ (.cells #[.int .i64 x.s, .int .i64 x.o, .int .i64 x.p, .int .i64 x.m] 50))).below (Below.refl _ _).drew)
 have X4 := Lib.hid ((X1.out.alloc (.cells #[.int .i64 x.s, .int .i64 x.o, .int .i64 x.p, .int .i64 x.m] 50)).drew)
 generalize (w1.alloc (.cells #[.int .i64 x.s, .int .i64 x.o, .int .i64 x.p, .int .i64 x.m] 50)).drew = wa at O4 B4 S4 X4 ⊢
 obtain ⟨z0, z1, z2, z3, _, _⟩ := own4 X4.out
 refine hK.out _ _ (⟨z0, z1, z2, z3⟩) ?_
 clear hK K hHeld
 intro hHeld
 try simp only [Act.put, List.setIfInBounds_toArray, List.set_cons_zero, List.set_cons_succ]
 refine wpH_one (i := 8) (by kernel_rfl) rfl (fun K hK => ?_)
 rw [if_pos (by rfl)]
 go_simp
 have O8 := Lib.hid (own_at (w := wa) [.slice (some ⟨b, off, none⟩) kk cap, .slice (some ⟨w1.heap.size, 0, none⟩) 1 1, .slice (some ⟨b, off + kk * 4, none⟩) (l.length - kk) (cap - kk)] 39 rfl)
 have E8 := Lib.hid (O4.out.alloc (.cells #[.slice (some ⟨b, off, none⟩) kk cap, .slice (some ⟨w1.heap.size, 0, none⟩) 1 1, .slice (some ⟨b, off + kk * 4, none⟩) (l.length - kk) (cap - kk)] 39))
 have B8 := Lib.hid (B4.out.alloc B4.out.size (.cells #[.slice (some ⟨b, off, none⟩) kk cap, .slice (some ⟨w1.heap.size, 0, none⟩) 1 1, .slice (some ⟨b, off + kk * 4, none⟩) (l.length - kk) (cap - kk)] 39))
 have S8 := Lib.hid (S4.out.below (belowNew _ (.cells #[.slice (some ⟨b, off, none⟩) kk cap, .slice (some ⟨w1.heap.size, 0, none⟩) 1 1, .slice (some ⟨b, off + kk * 4, none⟩) (l.length - kk) (cap - kk)] 39)))
 have X8 := Lib.hid (X4.out.alloc (.cells #[.slice (some ⟨b, off, none⟩) kk cap, .slice (some ⟨w1.heap.size, 0, none⟩) 1 1, .slice (some ⟨b, off + kk * 4, none⟩) (l.length - kk) (cap - kk)] 39))
 obtain ⟨u0, u1, u2, u3, _, _⟩ := own4 X8.out
 refine hK.out _ _ (⟨u0, u1, u2, u3⟩) ?_
 clear hK K hHeld
 intro hHeld
 try simp only [Act.put, List.setIfInBounds_toArray, List.set_cons_zero, List.set_cons_succ]
 refine wpH_one (i := 9) (by kernel_rfl) rfl (fun K hK => ?_)
 rw [if_pos (by rfl)]
 go_simp
 have FA := Lib.hid (show SlU (wa.alloc (.cells #[.slice (some ⟨b, off, none⟩) kk cap, .slice (some ⟨w1.heap.size, 0, none⟩) 1 1, .slice (some ⟨b, off + kk * 4, none⟩) (l.length - kk) (cap - kk)] 39)) (.slice (some ⟨b, off, none⟩) kk cap) (l.take kk) from S8.out.front (k := kk) (c := cap) (by omega) (by omega) (Nat.le_refl _))
 have FB := Lib.hid (show SlU (wa.alloc (.cells #[.slice (some ⟨b, off, none⟩) kk cap, .slice (some ⟨w1.heap.size, 0, none⟩) 1 1, .slice (some ⟨b, off + kk * 4, none⟩) (l.length - kk) (cap - kk)] 39)) (.slice (some ⟨b, off + kk * 4, none⟩) (l.length - kk) (cap - kk)) (l.drop kk) from S8.out.back (k := kk))
 refine (catn_u wa.heap.size _ _ _ kk 1 (l.length - kk) _ _ _ (l.take kk) [x] (l.drop kk) _ O8.out.lt (by first | rfl | (rw [List.length_take]; omega)) rfl (by first | rfl | (rw [List.length_drop])) (O8.out.cell (i := 0) rfl) (O8.out.cell (i := 1) rfl) (O8.out.cell (i := 2) rfl) FA.out (slt_new (L := usL) x E8.out) FB.out (by omega) (by omega) (by omega)).mono ?_
 rintro e w9 ⟨v9, rfl, hown, hbb⟩
 have R9 := Lib.hid (slt_of_own (L := usL) hown)
 have B9 := Lib.hid (belowTo B8.out hbb B8.out.size)
 have X9 := Lib.hid (X8.out.below hbb)
 clear hown hbb
 obtain ⟨q0, q1, q2, q3, _, _⟩ := own4 X9.out
 refine hK.out _ _ (⟨q0, q1, q2, q3⟩) ?_
 clear hK K hHeld
 intro hHeld
 try simp only [Act.put, List.setIfInBounds_toArray, List.set_cons_zero, List.set_cons_succ]
 refine tH 10 6 ?_
 refine wpAnyH_done (by kernel_rfl) ?_ _
 go_wp2_with fail
 go_ret
 exact ⟨_, rfl, by simpa using R9.out, B9.out⟩
set_option maxRecDepth 100000 in
set_option maxHeartbeats 2000000 in
theorem ins_mid_u (b off cap : Nat) (l : List Us) (x : Us) (w : World) (sl : SlU w (.slice (some ⟨b, off, none⟩) l.length cap) l) (h70 : l.length ≤ 70) (hlc : l.length ≤ cap) (hcm : cap ≤ maxLen) (kk : Nat) (hkl : kk ≤ l.length) (hkc : kk < cap) (hi : idxD (fun d : Us => decide (x.s < d.s)) l = if kk = l.length then -1 else (kk : Int)) : Calls Tryz.prog 56 #[.slice (some ⟨b, off, none⟩) l.length cap, .agg #[.int .i64 x.s, .int .i64 x.o, .int .i64 x.p, .int .i64 x.m], .func (.func 57) #[] #[]] w fun e w' => RetU w (l.take kk ++ x :: l.drop kk) e w' := by
 have k0 : (0 : Int) ≤ (kk : Int) := Int.natCast_nonneg _
 have k1 : (kk : Int) ≤ (l.length : Int) := by omega
 have k2 : (kk : Int) ≤ (cap : Int) := by omega
 have k4 : (l.length : Int) ≤ (cap : Int) := by omega
 have k5 : (l.length : Int) ≤ 70 := by omega
 have k6 : (kk : Int) < (cap : Int) := by omega
 have k7 : ¬ cap = kk := by omega
 unfold maxLen at hcm
 by_cases hend : kk = l.length
 ·rw [if_pos hend] at hi
  subst hend
  exact ins_mid1_u b off cap l x w sl h70 hlc (by unfold maxLen; exact hcm) hkc hi
 ·rw [if_neg hend] at hi
  exact ins_mid2_u b off cap l x w sl h70 hlc (by unfold maxLen; exact hcm) kk (by omega) hi
set_option maxRecDepth 100000 in
set_option maxHeartbeats 2000000 in
theorem ins_end_u (b off : Nat) (l : List Us) (x : Us) (w : World) (sl : SlU w (.slice (some ⟨b, off, none⟩) l.length l.length) l) (h70 : l.length ≤ 70) (hcm : l.length ≤ maxLen) (hi : idxD (fun d : Us => decide (x.s < d.s)) l = -1) : Calls Tryz.prog 56 #[.slice (some ⟨b, off, none⟩) l.length l.length, .agg #[.int .i64 x.s, .int .i64 x.o, .int .i64 x.p, .int .i64 x.m], .func (.func 57) #[] #[]] w fun e w' => RetU w (l ++ [x]) e w' := by
 have k0 : (0 : Int) ≤ (l.length : Int) := Int.natCast_nonneg _
 have k5 : (l.length : Int) ≤ 70 := by omega
 unfold maxLen at hcm
 have BW := Lib.hid (show Below w.heap.size w ((w.alloc (.cells #[.int .i64 x.s, .int .i64 x.o, .int .i64 x.p, .int .i64 x.m] 50)).alloc (.cells #[.func (.func 57) #[] #[]] 130)) from ((Below.refl _ _).alloc (Nat.le_refl _) _).alloc (by simp) _)
 have SL := Lib.hid (sl.below BW.out)
 have oX := Lib.hid (Own.alloc (own_at (w := w) [.int .i64 x.s, .int .i64 x.o, .int .i64 x.p, .int .i64 x.m] 50 rfl) (.cells #[.func (.func 57) #[] #[]] 130))
 have oA := Lib.hid (own_at (w := w.alloc (.cells #[.int .i64 x.s, .int .i64 x.o, .int .i64 x.p, .int .i64 x.m] 50)) (n := w.heap.size + 1) [.func (.func 57) #[] #[]] 130 (by simp))
 have HI := Lib.hid hi
 have HQ := Lib.hid (show ∀ (d : Us) (wx : World), Below ((w.alloc (.cells #[.int .i64 x.s, .int .i64 x.o, .int .i64 x.p, .int .i64 x.m] 50)).alloc (.cells #[.func (.func 57) #[] #[]] 130)).heap.size ((w.alloc (.cells #[.int .i64 x.s, .int .i64 x.o, .int .i64 x.p, .int .i64 x.m] 50)).alloc (.cells #[.func (.func 57) #[] #[]] 130)) wx → Calls Tryz.prog 90 #[.agg #[.int .i64 d.s, .int .i64 d.o, .int .i64 d.p, .int .i64 d.m], .pointer (some ⟨(w.heap.size + 1), 0, none⟩), .pointer (some ⟨w.heap.size, 0, none⟩)] wx fun e w' => e = .returned (.bool ((fun d : Us => decide (x.s < d.s)) d)) ∧ Below wx.heap.size wx w' from fun d wx hbx => insu_any (w.heap.size + 1) w.heap.size x d wx (Nat.lt_of_lt_of_le (by first | omega | (simp; done) | (simp; omega)) hbx.size) (Nat.lt_of_lt_of_le (by first | omega | (simp; done) | (simp; omega)) hbx.size) ((hbx.cell (p := ⟨w.heap.size + 1, 0, none⟩) (by first | omega | (simp; done) | (simp; omega))).trans (oA.out.cell (i := 0) rfl)) ((hbx.cell (p := ⟨w.heap.size, 0, none⟩) (by first | omega | (simp; done) | (simp; omega))).trans (oX.out.cell (i := 0) rfl)) ((hbx.cell (p := ⟨w.heap.size, 1, none⟩) (by first | omega | (simp; done) | (simp; omega))).trans (oX.out.cell (i := 1) rfl)) ((hbx.cell (p := ⟨w.heap.size, 2, none⟩) (by first | omega | (simp; done) | (simp; omega))).trans (oX.out.cell (i := 2) rfl)) ((hbx.cell (p := ⟨w.heap.size, 3, none⟩) (by first | omega | (simp; done) | (simp; omega))).trans (oX.out.cell (i := 3) rfl)))
 clear hi sl
 go_enter Tryz.func56, Tryz.ntmps56
 go_wp2_with (first | (go_at_call 89; refine (ix_insu_lit _ _ (w.heap.size + 1) w.heap.size (fun d : Us => decide (x.s < d.s)) ((w.alloc (.cells #[.int .i64 x.s, .int .i64 x.o, .int .i64 x.p, .int .i64 x.m] 50)).alloc (.cells #[.func (.func 57) #[] #[]] 130)).heap.size (-1) _ SL.out (Nat.le_refl _) HQ.out HI.out).mono ?_; rintro e w1 ⟨rfl, hb2⟩; have B1 := Lib.hid (belowTo BW.out hb2 BW.out.size); have X1 := Lib.hid (oX.out.below hb2); have S1 := Lib.hid (SL.out.below hb2); clear hb2; obtain ⟨x0, x1, x2, x3, _, _⟩ := own4 X1.out) | fail)
 have OXd := Lib.hid X1.out.drew
 have SD := Lib.hid (S1.out.below (Below.refl _ _).drew)
 have BD := Lib.hid B1.out.drew
 obtain ⟨y0, y1, y2, y3, _, _⟩ := own4 OXd.out
 clear oX oA SL
 refine region_H 11 #[false, false, false, false, false, false, false, false, false, false, false] (by kernel_rfl) (by kernel_rfl) (fun w' => w'.cell? ⟨w.heap.size, 0, none⟩ = some (.int .i64 x.s) ∧ w'.cell? ⟨w.heap.size, 1, none⟩ = some (.int .i64 x.o) ∧ w'.cell? ⟨w.heap.size, 2, none⟩ = some (.int .i64 x.p) ∧ w'.cell? ⟨w.heap.size, 3, none⟩ = some (.int .i64 x.m)) (by kernel_rfl) ?x25s (fun hHeld => ?x25r)
 case x25s => exact ⟨y0, y1, y2, y3⟩
 refine tH 0 15 ?_
 refine tH 1 16 ?_
 refine tH 2 17 ?_
 refine tH 3 18 ?_
 refine tH 5 20 ?_
 refine tH 6 21 ?_
 refine tH 7 22 ?_
 refine wpH_one (i := 4) (by kernel_rfl) rfl (fun K hK => ?_)
 rw [if_pos (by rfl)]
 go_simp
 have O4 := Lib.hid ((own_at (w := w1) [.int .i64 x.s, .int .i64 x.o, .int .i64 x.p, .int .i64 x.m] 50 rfl).drew)
 have B4 := Lib.hid ((B1.out.alloc B1.out.size (.cells #[.int .i64 x.s, .int .i64 x.o, .int .i64 x.p, .int .i64 x.m] 50)).drew)
 have S4 := Lib.hid ((S1.out.below (belowNew _ (.cells #[.int .i64 x.s, .int .i64 x.o, .int .i64 x.p, .int .i64 x.m] 50))).below (Below.refl _ _).drew)
 have X4 := Lib.hid ((X1.out.alloc (.cells #[.int .i64 x.s, .int .i64 x.o, .int .i64 x.p, .int .i64 x.m] 50)).drew)
 generalize (w1.alloc (.cells #[.int .i64 x.s, .int .i64 x.o, .int .i64 x.p, .int .i64 x.m] 50)).drew = wa at O4 B4 S4 X4 ⊢
 obtain ⟨z0, z1, z2, z3, _, _⟩ := own4 X4.out
 refine hK.out _ _ (⟨z0, z1, z2, z3⟩) ?_
 clear hK K hHeld
 intro hHeld
 try simp only [Act.put, List.setIfInBounds_toArray, List.set_cons_zero, List.set_cons_succ]
 refine wpH_one (i := 8) (by kernel_rfl) rfl (fun K hK => ?_)
 rw [if_pos (by rfl)]
 go_simp
 have O8 := Lib.hid (own_at (w := wa) [.slice (some ⟨b, off, none⟩) l.length l.length, .slice (some ⟨w1.heap.size, 0, none⟩) 1 1, .slice (some ⟨b, off, none⟩) 0 0] 39 rfl)
 have E8 := Lib.hid (O4.out.alloc (.cells #[.slice (some ⟨b, off, none⟩) l.length l.length, .slice (some ⟨w1.heap.size, 0, none⟩) 1 1, .slice (some ⟨b, off, none⟩) 0 0] 39))
 have B8 := Lib.hid (B4.out.alloc B4.out.size (.cells #[.slice (some ⟨b, off, none⟩) l.length l.length, .slice (some ⟨w1.heap.size, 0, none⟩) 1 1, .slice (some ⟨b, off, none⟩) 0 0] 39))
 have S8 := Lib.hid (S4.out.below (belowNew _ (.cells #[.slice (some ⟨b, off, none⟩) l.length l.length, .slice (some ⟨w1.heap.size, 0, none⟩) 1 1, .slice (some ⟨b, off, none⟩) 0 0] 39)))
 have X8 := Lib.hid (X4.out.alloc (.cells #[.slice (some ⟨b, off, none⟩) l.length l.length, .slice (some ⟨w1.heap.size, 0, none⟩) 1 1, .slice (some ⟨b, off, none⟩) 0 0] 39))
 obtain ⟨u0, u1, u2, u3, _, _⟩ := own4 X8.out
 refine hK.out _ _ (⟨u0, u1, u2, u3⟩) ?_
 clear hK K hHeld
 intro hHeld
 try simp only [Act.put, List.setIfInBounds_toArray, List.set_cons_zero, List.set_cons_succ]
 refine wpH_one (i := 9) (by kernel_rfl) rfl (fun K hK => ?_)
 rw [if_pos (by rfl)]
 go_simp
 have FA := Lib.hid (show SlU (wa.alloc (.cells #[.slice (some ⟨b, off, none⟩) l.length l.length, .slice (some ⟨w1.heap.size, 0, none⟩) 1 1, .slice (some ⟨b, off, none⟩) 0 0] 39)) (.slice (some ⟨b, off, none⟩) l.length l.length) l from S8.out)
 have FB := Lib.hid (show SlU (wa.alloc (.cells #[.slice (some ⟨b, off, none⟩) l.length l.length, .slice (some ⟨w1.heap.size, 0, none⟩) 1 1, .slice (some ⟨b, off, none⟩) 0 0] 39)) (.slice (some ⟨b, off, none⟩) 0 0) ([] : List Us) from slt_none0 (L := usL) _ (some ⟨b, off, none⟩))
 refine (catn_u wa.heap.size _ _ _ l.length 1 0 _ _ _ l [x] ([] : List Us) _ O8.out.lt (by first | rfl | (rw [List.length_take]; omega)) rfl (by first | rfl | (rw [List.length_drop])) (O8.out.cell (i := 0) rfl) (O8.out.cell (i := 1) rfl) (O8.out.cell (i := 2) rfl) FA.out (slt_new (L := usL) x E8.out) FB.out (by omega) (by omega) (by omega)).mono ?_
 rintro e w9 ⟨v9, rfl, hown, hbb⟩
 have R9 := Lib.hid (slt_of_own (L := usL) hown)
 have B9 := Lib.hid (belowTo B8.out hbb B8.out.size)
 have X9 := Lib.hid (X8.out.below hbb)
 clear hown hbb
 obtain ⟨q0, q1, q2, q3, _, _⟩ := own4 X9.out
 refine hK.out _ _ (⟨q0, q1, q2, q3⟩) ?_
 clear hK K hHeld
 intro hHeld
 try simp only [Act.put, List.setIfInBounds_toArray, List.set_cons_zero, List.set_cons_succ]
 refine tH 10 6 ?_
 refine wpAnyH_done (by kernel_rfl) ?_ _
 go_wp2_with fail
 go_ret
 exact ⟨_, rfl, by simpa using R9.out, B9.out⟩
set_option maxRecDepth 100000 in
set_option maxHeartbeats 2000000 in
theorem ins_emp_u (b off cap : Nat) (fo : Option Nat) (l : List Us) (x : Us) (w : World) (sl : SlU w (.slice (some ⟨b, off, fo⟩) 0 cap) l) (h70 : l.length ≤ 70) (hl : l = []) (hcm : cap ≤ maxLen) (hi : idxD (fun d : Us => decide (x.s < d.s)) l = -1) : Calls Tryz.prog 56 #[.slice (some ⟨b, off, fo⟩) 0 cap, .agg #[.int .i64 x.s, .int .i64 x.o, .int .i64 x.p, .int .i64 x.m], .func (.func 57) #[] #[]] w fun e w' => RetU w ([x]) e w' := by
 subst hl
 have k0 : (0 : Int) ≤ (cap : Int) := Int.natCast_nonneg _
 unfold maxLen at hcm
 have BW := Lib.hid (show Below w.heap.size w ((w.alloc (.cells #[.int .i64 x.s, .int .i64 x.o, .int .i64 x.p, .int .i64 x.m] 50)).alloc (.cells #[.func (.func 57) #[] #[]] 130)) from ((Below.refl _ _).alloc (Nat.le_refl _) _).alloc (by simp) _)
 have SL := Lib.hid (sl.below BW.out)
 have oX := Lib.hid (Own.alloc (own_at (w := w) [.int .i64 x.s, .int .i64 x.o, .int .i64 x.p, .int .i64 x.m] 50 rfl) (.cells #[.func (.func 57) #[] #[]] 130))
 have oA := Lib.hid (own_at (w := w.alloc (.cells #[.int .i64 x.s, .int .i64 x.o, .int .i64 x.p, .int .i64 x.m] 50)) (n := w.heap.size + 1) [.func (.func 57) #[] #[]] 130 (by simp))
 have HI := Lib.hid hi
 have HQ := Lib.hid (show ∀ (d : Us) (wx : World), Below ((w.alloc (.cells #[.int .i64 x.s, .int .i64 x.o, .int .i64 x.p, .int .i64 x.m] 50)).alloc (.cells #[.func (.func 57) #[] #[]] 130)).heap.size ((w.alloc (.cells #[.int .i64 x.s, .int .i64 x.o, .int .i64 x.p, .int .i64 x.m] 50)).alloc (.cells #[.func (.func 57) #[] #[]] 130)) wx → Calls Tryz.prog 90 #[.agg #[.int .i64 d.s, .int .i64 d.o, .int .i64 d.p, .int .i64 d.m], .pointer (some ⟨(w.heap.size + 1), 0, none⟩), .pointer (some ⟨w.heap.size, 0, none⟩)] wx fun e w' => e = .returned (.bool ((fun d : Us => decide (x.s < d.s)) d)) ∧ Below wx.heap.size wx w' from fun d wx hbx => insu_any (w.heap.size + 1) w.heap.size x d wx (Nat.lt_of_lt_of_le (by first | omega | (simp; done) | (simp; omega)) hbx.size) (Nat.lt_of_lt_of_le (by first | omega | (simp; done) | (simp; omega)) hbx.size) ((hbx.cell (p := ⟨w.heap.size + 1, 0, none⟩) (by first | omega | (simp; done) | (simp; omega))).trans (oA.out.cell (i := 0) rfl)) ((hbx.cell (p := ⟨w.heap.size, 0, none⟩) (by first | omega | (simp; done) | (simp; omega))).trans (oX.out.cell (i := 0) rfl)) ((hbx.cell (p := ⟨w.heap.size, 1, none⟩) (by first | omega | (simp; done) | (simp; omega))).trans (oX.out.cell (i := 1) rfl)) ((hbx.cell (p := ⟨w.heap.size, 2, none⟩) (by first | omega | (simp; done) | (simp; omega))).trans (oX.out.cell (i := 2) rfl)) ((hbx.cell (p := ⟨w.heap.size, 3, none⟩) (by first | omega | (simp; done) | (simp; omega))).trans (oX.out.cell (i := 3) rfl)))
 clear hi sl
 go_enter Tryz.func56, Tryz.ntmps56
 go_wp2_with (first | (go_at_call 89; refine (ix_insu_lit _ _ (w.heap.size + 1) w.heap.size (fun d : Us => decide (x.s < d.s)) ((w.alloc (.cells #[.int .i64 x.s, .int .i64 x.o, .int .i64 x.p, .int .i64 x.m] 50)).alloc (.cells #[.func (.func 57) #[] #[]] 130)).heap.size (-1) _ SL.out (Nat.le_refl _) HQ.out HI.out).mono ?_; rintro e w1 ⟨rfl, hb2⟩; have B1 := Lib.hid (belowTo BW.out hb2 BW.out.size); have X1 := Lib.hid (oX.out.below hb2); have S1 := Lib.hid (SL.out.below hb2); clear hb2; obtain ⟨x0, x1, x2, x3, _, _⟩ := own4 X1.out) | fail)
 have OXd := Lib.hid X1.out.drew
 have SD := Lib.hid (S1.out.below (Below.refl _ _).drew)
 have BD := Lib.hid B1.out.drew
 obtain ⟨y0, y1, y2, y3, _, _⟩ := own4 OXd.out
 clear oX oA SL
 refine region_H 11 #[false, false, false, false, false, false, false, false, false, false, false] (by kernel_rfl) (by kernel_rfl) (fun w' => w'.cell? ⟨w.heap.size, 0, none⟩ = some (.int .i64 x.s) ∧ w'.cell? ⟨w.heap.size, 1, none⟩ = some (.int .i64 x.o) ∧ w'.cell? ⟨w.heap.size, 2, none⟩ = some (.int .i64 x.p) ∧ w'.cell? ⟨w.heap.size, 3, none⟩ = some (.int .i64 x.m)) (by kernel_rfl) ?x37s (fun hHeld => ?x37r)
 case x37s => exact ⟨y0, y1, y2, y3⟩
 refine tH 0 15 ?_
 refine tH 1 16 ?_
 refine tH 2 17 ?_
 refine tH 3 18 ?_
 refine tH 5 20 ?_
 refine tH 6 21 ?_
 refine tH 7 22 ?_
 refine wpH_one (i := 4) (by kernel_rfl) rfl (fun K hK => ?_)
 rw [if_pos (by rfl)]
 go_simp
 have O4 := Lib.hid ((own_at (w := w1) [.int .i64 x.s, .int .i64 x.o, .int .i64 x.p, .int .i64 x.m] 50 rfl).drew)
 have B4 := Lib.hid ((B1.out.alloc B1.out.size (.cells #[.int .i64 x.s, .int .i64 x.o, .int .i64 x.p, .int .i64 x.m] 50)).drew)
 have S4 := Lib.hid ((S1.out.below (belowNew _ (.cells #[.int .i64 x.s, .int .i64 x.o, .int .i64 x.p, .int .i64 x.m] 50))).below (Below.refl _ _).drew)
 have X4 := Lib.hid ((X1.out.alloc (.cells #[.int .i64 x.s, .int .i64 x.o, .int .i64 x.p, .int .i64 x.m] 50)).drew)
 generalize (w1.alloc (.cells #[.int .i64 x.s, .int .i64 x.o, .int .i64 x.p, .int .i64 x.m] 50)).drew = wa at O4 B4 S4 X4 ⊢
 obtain ⟨z0, z1, z2, z3, _, _⟩ := own4 X4.out
 refine hK.out _ _ (⟨z0, z1, z2, z3⟩) ?_
 clear hK K hHeld
 intro hHeld
 try simp only [Act.put, List.setIfInBounds_toArray, List.set_cons_zero, List.set_cons_succ]
 refine wpH_one (i := 8) (by kernel_rfl) rfl (fun K hK => ?_)
 rw [if_pos (by rfl)]
 go_simp
 have O8 := Lib.hid (own_at (w := wa) [.slice (some ⟨b, off, fo⟩) 0 cap, .slice (some ⟨w1.heap.size, 0, none⟩) 1 1, .slice (some ⟨b, off, fo⟩) 0 cap] 39 rfl)
 have E8 := Lib.hid (O4.out.alloc (.cells #[.slice (some ⟨b, off, fo⟩) 0 cap, .slice (some ⟨w1.heap.size, 0, none⟩) 1 1, .slice (some ⟨b, off, fo⟩) 0 cap] 39))
 have B8 := Lib.hid (B4.out.alloc B4.out.size (.cells #[.slice (some ⟨b, off, fo⟩) 0 cap, .slice (some ⟨w1.heap.size, 0, none⟩) 1 1, .slice (some ⟨b, off, fo⟩) 0 cap] 39))
 have S8 := Lib.hid (S4.out.below (belowNew _ (.cells #[.slice (some ⟨b, off, fo⟩) 0 cap, .slice (some ⟨w1.heap.size, 0, none⟩) 1 1, .slice (some ⟨b, off, fo⟩) 0 cap] 39)))
 have X8 := Lib.hid (X4.out.alloc (.cells #[.slice (some ⟨b, off, fo⟩) 0 cap, .slice (some ⟨w1.heap.size, 0, none⟩) 1 1, .slice (some ⟨b, off, fo⟩) 0 cap] 39))
 obtain ⟨u0, u1, u2, u3, _, _⟩ := own4 X8.out
 refine hK.out _ _ (⟨u0, u1, u2, u3⟩) ?_
 clear hK K hHeld
 intro hHeld
 try simp only [Act.put, List.setIfInBounds_toArray, List.set_cons_zero, List.set_cons_succ]
 refine wpH_one (i := 9) (by kernel_rfl) rfl (fun K hK => ?_)
 rw [if_pos (by rfl)]
 go_simp
 have FA := Lib.hid (show SlU (wa.alloc (.cells #[.slice (some ⟨b, off, fo⟩) 0 cap, .slice (some ⟨w1.heap.size, 0, none⟩) 1 1, .slice (some ⟨b, off, fo⟩) 0 cap] 39)) (.slice (some ⟨b, off, fo⟩) 0 cap) ([] : List Us) from S8.out)
 have FB := Lib.hid (show SlU (wa.alloc (.cells #[.slice (some ⟨b, off, fo⟩) 0 cap, .slice (some ⟨w1.heap.size, 0, none⟩) 1 1, .slice (some ⟨b, off, fo⟩) 0 cap] 39)) (.slice (some ⟨b, off, fo⟩) 0 cap) ([] : List Us) from S8.out)
 refine (catn_u wa.heap.size _ _ _ 0 1 0 _ _ _ ([] : List Us) [x] ([] : List Us) _ O8.out.lt (by first | rfl | (rw [List.length_take]; omega)) rfl (by first | rfl | (rw [List.length_drop])) (O8.out.cell (i := 0) rfl) (O8.out.cell (i := 1) rfl) (O8.out.cell (i := 2) rfl) FA.out (slt_new (L := usL) x E8.out) FB.out (by omega) (by omega) (by omega)).mono ?_
 rintro e w9 ⟨v9, rfl, hown, hbb⟩
 have R9 := Lib.hid (slt_of_own (L := usL) hown)
 have B9 := Lib.hid (belowTo B8.out hbb B8.out.size)
 have X9 := Lib.hid (X8.out.below hbb)
 clear hown hbb
 obtain ⟨q0, q1, q2, q3, _, _⟩ := own4 X9.out
 refine hK.out _ _ (⟨q0, q1, q2, q3⟩) ?_
 clear hK K hHeld
 intro hHeld
 try simp only [Act.put, List.setIfInBounds_toArray, List.set_cons_zero, List.set_cons_succ]
 refine tH 10 6 ?_
 refine wpAnyH_done (by kernel_rfl) ?_ _
 go_wp2_with fail
 go_ret
 exact ⟨_, rfl, by simpa using R9.out, B9.out⟩
set_option maxRecDepth 100000 in
set_option maxHeartbeats 2000000 in
theorem ins_nil_u  (l : List Us) (x : Us) (w : World) (sl : SlU w (.slice none 0 0) l) (h70 : l.length ≤ 70) (hl : l = []) (hi : idxD (fun d : Us => decide (x.s < d.s)) l = -1) : Calls Tryz.prog 56 #[.slice none 0 0, .agg #[.int .i64 x.s, .int .i64 x.o, .int .i64 x.p, .int .i64 x.m], .func (.func 57) #[] #[]] w fun e w' => RetU w ([x]) e w' := by
 subst hl
 have BW := Lib.hid (show Below w.heap.size w ((w.alloc (.cells #[.int .i64 x.s, .int .i64 x.o, .int .i64 x.p, .int .i64 x.m] 50)).alloc (.cells #[.func (.func 57) #[] #[]] 130)) from ((Below.refl _ _).alloc (Nat.le_refl _) _).alloc (by simp) _)
 have SL := Lib.hid (sl.below BW.out)
 have oX := Lib.hid (Own.alloc (own_at (w := w) [.int .i64 x.s, .int .i64 x.o, .int .i64 x.p, .int .i64 x.m] 50 rfl) (.cells #[.func (.func 57) #[] #[]] 130))
 have oA := Lib.hid (own_at (w := w.alloc (.cells #[.int .i64 x.s, .int .i64 x.o, .int .i64 x.p, .int .i64 x.m] 50)) (n := w.heap.size + 1) [.func (.func 57) #[] #[]] 130 (by simp))
 have HI := Lib.hid hi
 have HQ := Lib.hid (show ∀ (d : Us) (wx : World), Below ((w.alloc (.cells #[.int .i64 x.s, .int .i64 x.o, .int .i64 x.p, .int .i64 x.m] 50)).alloc (.cells #[.func (.func 57) #[] #[]] 130)).heap.size ((w.alloc (.cells #[.int .i64 x.s, .int .i64 x.o, .int .i64 x.p, .int .i64 x.m] 50)).alloc (.cells #[.func (.func 57) #[] #[]] 130)) wx → Calls Tryz.prog 90 #[.agg #[.int .i64 d.s, .int .i64 d.o, .int .i64 d.p, .int .i64 d.m], .pointer (some ⟨(w.heap.size + 1), 0, none⟩), .pointer (some ⟨w.heap.size, 0, none⟩)] wx fun e w' => e = .returned (.bool ((fun d : Us => decide (x.s < d.s)) d)) ∧ Below wx.heap.size wx w' from fun d wx hbx => insu_any (w.heap.size + 1) w.heap.size x d wx (Nat.lt_of_lt_of_le (by first | omega | (simp; done) | (simp; omega)) hbx.size) (Nat.lt_of_lt_of_le (by first | omega | (simp; done) | (simp; omega)) hbx.size) ((hbx.cell (p := ⟨w.heap.size + 1, 0, none⟩) (by first | omega | (simp; done) | (simp; omega))).trans (oA.out.cell (i := 0) rfl)) ((hbx.cell (p := ⟨w.heap.size, 0, none⟩) (by first | omega | (simp; done) | (simp; omega))).trans (oX.out.cell (i := 0) rfl)) ((hbx.cell (p := ⟨w.heap.size, 1, none⟩) (by first | omega | (simp; done) | (simp; omega))).trans (oX.out.cell (i := 1) rfl)) ((hbx.cell (p := ⟨w.heap.size, 2, none⟩) (by first | omega | (simp; done) | (simp; omega))).trans (oX.out.cell (i := 2) rfl)) ((hbx.cell (p := ⟨w.heap.size, 3, none⟩) (by first | omega | (simp; done) | (simp; omega))).trans (oX.out.cell (i := 3) rfl)))
 clear hi sl
 go_enter Tryz.func56, Tryz.ntmps56
 go_wp2_with (first | (go_at_call 89; refine (ix_insu_lit _ _ (w.heap.size + 1) w.heap.size (fun d : Us => decide (x.s < d.s)) ((w.alloc (.cells #[.int .i64 x.s, .int .i64 x.o, .int .i64 x.p, .int .i64 x.m] 50)).alloc (.cells #[.func (.func 57) #[] #[]] 130)).heap.size (-1) _ SL.out (Nat.le_refl _) HQ.out HI.out).mono ?_; rintro e w1 ⟨rfl, hb2⟩; have B1 := Lib.hid (belowTo BW.out hb2 BW.out.size); have X1 := Lib.hid (oX.out.below hb2); have S1 := Lib.hid (SL.out.below hb2); clear hb2; obtain ⟨x0, x1, x2, x3, _, _⟩ := own4 X1.out) | fail)
 have OXd := Lib.hid X1.out.drew
 have SD := Lib.hid (S1.out.below (Below.refl _ _).drew)
 have BD := Lib.hid B1.out.drew
 obtain ⟨y0, y1, y2, y3, _, _⟩ := own4 OXd.out
 clear oX oA SL
 refine region_H 11 #[false, false, false, false, false, false, false, false, false, false, false] (by kernel_rfl) (by kernel_rfl) (fun w' => w'.cell? ⟨w.heap.size, 0, none⟩ = some (.int .i64 x.s) ∧ w'.cell? ⟨w.heap.size, 1, none⟩ = some (.int .i64 x.o) ∧ w'.cell? ⟨w.heap.size, 2, none⟩ = some (.int .i64 x.p) ∧ w'.cell? ⟨w.heap.size, 3, none⟩ = some (.int .i64 x.m)) (by kernel_rfl) ?x49s (fun hHeld => ?x49r)
 case x49s => exact ⟨y0, y1, y2, y3⟩
 refine tH 0 15 ?_
 refine tH 1 16 ?_
 refine tH 2 17 ?_
 refine tH 3 18 ?_
 refine tH 5 20 ?_
 refine tH 6 21 ?_
 refine tH 7 22 ?_
 refine wpH_one (i := 4) (by kernel_rfl) rfl (fun K hK => ?_)
 rw [if_pos (by rfl)]
 go_simp
 have O4 := Lib.hid ((own_at (w := w1) [.int .i64 x.s, .int .i64 x.o, .int .i64 x.p, .int .i64 x.m] 50 rfl).drew)
 have B4 := Lib.hid ((B1.out.alloc B1.out.size (.cells #[.int .i64 x.s, .int .i64 x.o, .int .i64 x.p, .int .i64 x.m] 50)).drew)
 have S4 := Lib.hid ((S1.out.below (belowNew _ (.cells #[.int .i64 x.s, .int .i64 x.o, .int .i64 x.p, .int .i64 x.m] 50))).below (Below.refl _ _).drew)
 have X4 := Lib.hid ((X1.out.alloc (.cells #[.int .i64 x.s, .int .i64 x.o, .int .i64 x.p, .int .i64 x.m] 50)).drew)
 generalize (w1.alloc (.cells #[.int .i64 x.s, .int .i64 x.o, .int .i64 x.p, .int .i64 x.m] 50)).drew = wa at O4 B4 S4 X4 ⊢
 obtain ⟨z0, z1, z2, z3, _, _⟩ := own4 X4.out
 refine hK.out _ _ (⟨z0, z1, z2, z3⟩) ?_
 clear hK K hHeld
 intro hHeld
 try simp only [Act.put, List.setIfInBounds_toArray, List.set_cons_zero, List.set_cons_succ]
 refine wpH_one (i := 8) (by kernel_rfl) rfl (fun K hK => ?_)
 rw [if_pos (by rfl)]
 go_simp
 have O8 := Lib.hid (own_at (w := wa) [.slice none 0 0, .slice (some ⟨w1.heap.size, 0, none⟩) 1 1, .slice none 0 0] 39 rfl)
 have E8 := Lib.hid (O4.out.alloc (.cells #[.slice none 0 0, .slice (some ⟨w1.heap.size, 0, none⟩) 1 1, .slice none 0 0] 39))
 have B8 := Lib.hid (B4.out.alloc B4.out.size (.cells #[.slice none 0 0, .slice (some ⟨w1.heap.size, 0, none⟩) 1 1, .slice none 0 0] 39))
 have S8 := Lib.hid (S4.out.below (belowNew _ (.cells #[.slice none 0 0, .slice (some ⟨w1.heap.size, 0, none⟩) 1 1, .slice none 0 0] 39)))
 have X8 := Lib.hid (X4.out.alloc (.cells #[.slice none 0 0, .slice (some ⟨w1.heap.size, 0, none⟩) 1 1, .slice none 0 0] 39))
 obtain ⟨u0, u1, u2, u3, _, _⟩ := own4 X8.out
 refine hK.out _ _ (⟨u0, u1, u2, u3⟩) ?_
 clear hK K hHeld
 intro hHeld
 try simp only [Act.put, List.setIfInBounds_toArray, List.set_cons_zero, List.set_cons_succ]
 refine wpH_one (i := 9) (by kernel_rfl) rfl (fun K hK => ?_)
 rw [if_pos (by rfl)]
 go_simp
 refine (cat0_u wa.heap.size _ _ _ _ O8.out.lt (O8.out.cell (i := 0) rfl) (O8.out.cell (i := 1) rfl) (O8.out.cell (i := 2) rfl) (slt_new (L := usL) x E8.out) (by simp)).mono ?_
 rintro e w9 ⟨v9, rfl, hown, hbb⟩
 have R9 := Lib.hid (slt_of_own (L := usL) hown)
 have B9 := Lib.hid (belowTo B8.out hbb B8.out.size)
 have X9 := Lib.hid (X8.out.below hbb)
 clear hown hbb
 obtain ⟨q0, q1, q2, q3, _, _⟩ := own4 X9.out
 refine hK.out _ _ (⟨q0, q1, q2, q3⟩) ?_
 clear hK K hHeld
 intro hHeld
 try simp only [Act.put, List.setIfInBounds_toArray, List.set_cons_zero, List.set_cons_succ]
 refine tH 10 6 ?_
 refine wpAnyH_done (by kernel_rfl) ?_ _
 go_wp2_with fail
 go_ret
 exact ⟨_, rfl, by exact R9.out, B9.out⟩
theorem ins_u (v : Value) (l : List Us) (x : Us) (w : World) (sl : SlU w v l) (h70 : l.length ≤ 70) : Calls Tryz.prog 56 #[v, .agg #[.int .i64 x.s, .int .i64 x.o, .int .i64 x.p, .int .i64 x.m], .func (.func 57) #[] #[]] w fun e w' => RetU w (adU x l) e w' := by
 obtain ⟨p, cap, e0, hlc, hcm, hpn⟩ := sl.form l.length rfl
 subst e0
 have hnl := sl.none_len
 cases p with
 | none =>
  obtain rfl := hnl rfl
  obtain rfl := hpn rfl
  exact ins_nil_u [] x w sl h70 rfl rfl
 | some ad =>
  obtain ⟨b, off, fo⟩ := ad
  by_cases hl0 : l = []
  ·subst hl0
   exact ins_emp_u b off cap fo [] x w sl h70 rfl hcm rfl
  obtain rfl : fo = none := slt_plain sl (List.length_pos_iff.2 hl0)
  rcases idx_cases (fun d : Us => decide (x.s < d.s)) l with ⟨hi, hany⟩ | ⟨k, r, hk, hq, hi, _, _, hpre⟩
  ·rw [adU, insL_none hany]
   rcases Nat.lt_or_ge l.length cap with hlt | hge
   ·have := ins_mid_u b off cap l x w sl h70 hlc hcm l.length (Nat.le_refl _) hlt (by rw [if_pos rfl]; exact hi)
    simpa using this
   ·obtain rfl : cap = l.length := by omega
    exact ins_end_u b off l x w sl h70 hcm hi
  ·rw [adU, insL_some hk hq hpre]
   have hkl := (List.getElem?_eq_some_iff.1 hk).1
   exact ins_mid_u b off cap l x w sl h70 hlc hcm k (by omega) (by omega) (by rw [if_neg (by omega)]; exact hi)
set_option maxRecDepth 100000 in
set_option maxHeartbeats 2000000 in
theorem ins_mid1_g (b off cap : Nat) (l : List Gr) (x : Gr) (w : World) (sl : SlG w (.slice (some ⟨b, off, none⟩) l.length cap) l) (h70 : l.length ≤ 70) (hlc : l.length ≤ cap) (hcm : cap ≤ maxLen) (hkc : l.length < cap) (hi : idxD (fun d : Gr => decide (x.s < d.s)) l = -1) : Calls Tryz.prog 73 #[.slice (some ⟨b, off, none⟩) l.length cap, .agg #[.int .i64 x.s, .int .i64 x.o, .int .i64 x.p, .int .i64 x.m, .int .i64 x.u], .func (.func 64) #[] #[]] w fun e w' => RetG w (l.take l.length ++ x :: l.drop l.length) e w' := by
 have k0 : (0 : Int) ≤ (l.length : Int) := Int.natCast_nonneg _
 have k1 : (l.length : Int) ≤ (l.length : Int) := by omega
 have k2 : (l.length : Int) ≤ (cap : Int) := by omega
 have k4 : (l.length : Int) ≤ (cap : Int) := by omega
 have k5 : (l.length : Int) ≤ 70 := by omega
 have k6 : (l.length : Int) < (cap : Int) := by omega
 have k7 : ¬ cap = l.length := by omega
 unfold maxLen at hcm
 have BW := Lib.hid (show Below w.heap.size w ((w.alloc (.cells #[.int .i64 x.s, .int .i64 x.o, .int .i64 x.p, .int .i64 x.m, .int .i64 x.u] 52)).alloc (.cells #[.func (.func 64) #[] #[]] 139)) from ((Below.refl _ _).alloc (Nat.le_refl _) _).alloc (by simp) _)
 have SL := Lib.hid (sl.below BW.out)
 have oX := Lib.hid (Own.alloc (own_at (w := w) [.int .i64 x.s, .int .i64 x.o, .int .i64 x.p, .int .i64 x.m, .int .i64 x.u] 52 rfl) (.cells #[.func (.func 64) #[] #[]] 139))
 have oA := Lib.hid (own_at (w := w.alloc (.cells #[.int .i64 x.s, .int .i64 x.o, .int .i64 x.p, .int .i64 x.m, .int .i64 x.u] 52)) (n := w.heap.size + 1) [.func (.func 64) #[] #[]] 139 (by simp))
 have HI := Lib.hid hi
 have HQ := Lib.hid (show ∀ (d : Gr) (wx : World), Below ((w.alloc (.cells #[.int .i64 x.s, .int .i64 x.o, .int .i64 x.p, .int .i64 x.m, .int .i64 x.u] 52)).alloc (.cells #[.func (.func 64) #[] #[]] 139)).heap.size ((w.alloc (.cells #[.int .i64 x.s, .int .i64 x.o, .int .i64 x.p, .int .i64 x.m, .int .i64 x.u] 52)).alloc (.cells #[.func (.func 64) #[] #[]] 139)) wx → Calls Tryz.prog 98 #[.agg #[.int .i64 d.s, .int .i64 d.o, .int .i64 d.p, .int .i64 d.m, .int .i64 d.u], .pointer (some ⟨(w.heap.size + 1), 0, none⟩), .pointer (some ⟨w.heap.size, 0, none⟩)] wx fun e w' => e = .returned (.bool ((fun d : Gr => decide (x.s < d.s)) d)) ∧ Below wx.heap.size wx w' from fun d wx hbx => insg_any (w.heap.size + 1) w.heap.size x d wx (Nat.lt_of_lt_of_le (by first | omega | (simp; done) | (simp; omega)) hbx.size) (Nat.lt_of_lt_of_le (by first | omega | (simp; done) | (simp; omega)) hbx.size) ((hbx.cell (p := ⟨w.heap.size + 1, 0, none⟩) (by first | omega | (simp; done) | (simp; omega))).trans (oA.out.cell (i := 0) rfl)) ((hbx.cell (p := ⟨w.heap.size, 0, none⟩) (by first | omega | (simp; done) | (simp; omega))).trans (oX.out.cell (i := 0) rfl)) ((hbx.cell (p := ⟨w.heap.size, 1, none⟩) (by first | omega | (simp; done) | (simp; omega))).trans (oX.out.cell (i := 1) rfl)) ((hbx.cell (p := ⟨w.heap.size, 2, none⟩) (by first | omega | (simp; done) | (simp; omega))).trans (oX.out.cell (i := 2) rfl)) ((hbx.cell (p := ⟨w.heap.size, 3, none⟩) (by first | omega | (simp; done) | (simp; omega))).trans (oX.out.cell (i := 3) rfl)) ((hbx.cell (p := ⟨w.heap.size, 4, none⟩) (by first | omega | (simp; done) | (simp; omega))).trans (oX.out.cell (i := 4) rfl)))
 clear hi sl
 go_enter Tryz.func73, Tryz.ntmps73
 go_wp2_with (first | (go_at_call 22; refine (ix_insg_lit _ _ (w.heap.size + 1) w.heap.size (fun d : Gr => decide (x.s < d.s)) ((w.alloc (.cells #[.int .i64 x.s, .int .i64 x.o, .int .i64 x.p, .int .i64 x.m, .int .i64 x.u] 52)).alloc (.cells #[.func (.func 64) #[] #[]] 139)).heap.size (-1) _ SL.out (Nat.le_refl _) HQ.out HI.out).mono ?_; rintro e w1 ⟨rfl, hb2⟩; have B1 := Lib.hid (belowTo BW.out hb2 BW.out.size); have X1 := Lib.hid (oX.out.below hb2); have S1 := Lib.hid (SL.out.below hb2); clear hb2; obtain ⟨x0, x1, x2, x3, x4, _, _⟩ := own5 X1.out) | fail)
 have OXd := Lib.hid X1.out.drew
 have SD := Lib.hid (S1.out.below (Below.refl _ _).drew)
 have BD := Lib.hid B1.out.drew
 obtain ⟨y0, y1, y2, y3, y4, _, _⟩ := own5 OXd.out
 clear oX oA SL
 refine region_H 11 #[false, false, false, false, false, false, false, false, false, false, false] (by kernel_rfl) (by kernel_rfl) (fun w' => w'.cell? ⟨w.heap.size, 0, none⟩ = some (.int .i64 x.s) ∧ w'.cell? ⟨w.heap.size, 1, none⟩ = some (.int .i64 x.o) ∧ w'.cell? ⟨w.heap.size, 2, none⟩ = some (.int .i64 x.p) ∧ w'.cell? ⟨w.heap.size, 3, none⟩ = some (.int .i64 x.m) ∧ w'.cell? ⟨w.heap.size, 4, none⟩ = some (.int .i64 x.u)) (by kernel_rfl) ?x61s (fun hHeld => ?x61r)
 case x61s => exact ⟨y0, y1, y2, y3, y4⟩
 refine tH 0 15 ?_
 refine tH 1 16 ?_
 refine tH 2 17 ?_
 refine tH 3 18 ?_
 refine tH 5 20 ?_
 refine tH 6 21 ?_
 refine tH 7 22 ?_
 refine wpH_one (i := 4) (by kernel_rfl) rfl (fun K hK => ?_)
 rw [if_pos (by rfl)]
 go_simp
 have O4 := Lib.hid ((own_at (w := w1) [.int .i64 x.s, .int .i64 x.o, .int .i64 x.p, .int .i64 x.m, .int .i64 x.u] 52 rfl).drew)
 have B4 := Lib.hid ((B1.out.alloc B1.out.size (.cells #[.int .i64 x.s, .int .i64 x.o, .int .i64 x.p, .int .i64 x.m, .int .i64 x.u] 52)).drew)
 have S4 := Lib.hid ((S1.out.below (belowNew _ (.cells #[.int .i64 x.s, .int .i64 x.o, .int .i64 x.p, .int .i64 x.m, .int .i64 x.u] 52))).below (Below.refl _ _).drew)
 have X4 := Lib.hid ((X1.out.alloc (.cells #[.int .i64 x.s, .int .i64 x.o, .int .i64 x.p, .int .i64 x.m, .int .i64 x.u] 52)).drew)
 generalize (w1.alloc (.cells #[.int .i64 x.s, .int .i64 x.o, .int .i64 x.p, .int .i64 x.m, .int .i64 x.u] 52)).drew = wa at O4 B4 S4 X4 ⊢
 obtain ⟨z0, z1, z2, z3, z4, _, _⟩ := own5 X4.out
 refine hK.out _ _ (⟨z0, z1, z2, z3, z4⟩) ?_
 clear hK K hHeld
 intro hHeld
 try simp only [Act.put, List.setIfInBounds_toArray, List.set_cons_zero, List.set_cons_succ]
 refine wpH_one (i := 8) (by kernel_rfl) rfl (fun K hK => ?_)
 rw [if_pos (by rfl)]
 go_simp
 have O8 := Lib.hid (own_at (w := wa) [.slice (some ⟨b, off, none⟩) l.length cap, .slice (some ⟨w1.heap.size, 0, none⟩) 1 1, .slice (some ⟨b, off + l.length * 5, none⟩) 0 (cap - l.length)] 40 rfl)
 have E8 := Lib.hid (O4.out.alloc (.cells #[.slice (some ⟨b, off, none⟩) l.length cap, .slice (some ⟨w1.heap.size, 0, none⟩) 1 1, .slice (some ⟨b, off + l.length * 5, none⟩) 0 (cap - l.length)] 40))
 have B8 := Lib.hid (B4.out.alloc B4.out.size (.cells #[.slice (some ⟨b, off, none⟩) l.length cap, .slice (some ⟨w1.heap.size, 0, none⟩) 1 1, .slice (some ⟨b, off + l.length * 5, none⟩) 0 (cap - l.length)] 40))
 have S8 := Lib.hid (S4.out.below (belowNew _ (.cells #[.slice (some ⟨b, off, none⟩) l.length cap, .slice (some ⟨w1.heap.size, 0, none⟩) 1 1, .slice (some ⟨b, off + l.length * 5, none⟩) 0 (cap - l.length)] 40)))
 have X8 := Lib.hid (X4.out.alloc (.cells #[.slice (some ⟨b, off, none⟩) l.length cap, .slice (some ⟨w1.heap.size, 0, none⟩) 1 1, .slice (some ⟨b, off + l.length * 5, none⟩) 0 (cap - l.length)] 40))
 obtain ⟨u0, u1, u2, u3, u4, _, _⟩ := own5 X8.out
 refine hK.out _ _ (⟨u0, u1, u2, u3, u4⟩) ?_
 clear hK K hHeld
 intro hHeld
 try simp only [Act.put, List.setIfInBounds_toArray, List.set_cons_zero, List.set_cons_succ]
 refine wpH_one (i := 9) (by kernel_rfl) rfl (fun K hK => ?_)
 rw [if_pos (by rfl)]
 go_simp
 have FA := Lib.hid (show SlG (wa.alloc (.cells #[.slice (some ⟨b, off, none⟩) l.length cap, .slice (some ⟨w1.heap.size, 0, none⟩) 1 1, .slice (some ⟨b, off + l.length * 5, none⟩) 0 (cap - l.length)] 40)) (.slice (some ⟨b, off, none⟩) l.length cap) (l.take l.length) from S8.out.front (k := l.length) (c := cap) (by omega) (by omega) (Nat.le_refl _))
 have FB := Lib.hid (show SlG (wa.alloc (.cells #[.slice (some ⟨b, off, none⟩) l.length cap, .slice (some ⟨w1.heap.size, 0, none⟩) 1 1, .slice (some ⟨b, off + l.length * 5, none⟩) 0 (cap - l.length)] 40)) (.slice (some ⟨b, off + l.length * 5, none⟩) 0 (cap - l.length)) (l.drop l.length) from slt_n0 (S8.out.back (k := l.length)) (by omega))
 refine (catn_g wa.heap.size _ _ _ l.length 1 0 _ _ _ (l.take l.length) [x] (l.drop l.length) _ O8.out.lt (by first | rfl | (rw [List.length_take]; omega)) rfl (by first | rfl | ((rw [List.length_drop]; omega))) (O8.out.cell (i := 0) rfl) (O8.out.cell (i := 1) rfl) (O8.out.cell (i := 2) rfl) FA.out (slt_new (L := grL) x E8.out) FB.out (by omega) (by omega) (by omega)).mono ?_
 rintro e w9 ⟨v9, rfl, hown, hbb⟩
 have R9 := Lib.hid (slt_of_own (L := grL) hown)
 have B9 := Lib.hid (belowTo B8.out hbb B8.out.size)
 have X9 := Lib.hid (X8.out.below hbb)
 clear hown hbb
 obtain ⟨q0, q1, q2, q3, q4, _, _⟩ := own5 X9.out
 refine hK.out _ _ (⟨q0, q1, q2, q3, q4⟩) ?_
 clear hK K hHeld
 intro hHeld
 try simp only [Act.put, List.setIfInBounds_toArray, List.set_cons_zero, List.set_cons_succ]
 refine tH 10 6 ?_
 refine wpAnyH_done (by kernel_rfl) ?_ _
 go_wp2_with fail
 go_ret
 exact ⟨_, rfl, by simpa using R9.out, B9.out⟩
set_option maxRecDepth 100000 in
set_option maxHeartbeats 2000000 in
theorem ins_mid2_g (b off cap : Nat) (l : List Gr) (x : Gr) (w : World) (sl : SlG w (.slice (some ⟨b, off, none⟩) l.length cap) l) (h70 : l.length ≤ 70) (hlc : l.length ≤ cap) (hcm : cap ≤ maxLen) (kk : Nat) (hkl : kk < l.length) (hi : idxD (fun d : Gr => decide (x.s < d.s)) l = (kk : Int)) : Calls Tryz.prog 73 #[.slice (some ⟨b, off, none⟩) l.length cap, .agg #[.int .i64 x.s, .int .i64 x.o, .int .i64 x.p, .int .i64 x.m, .int .i64 x.u], .func (.func 64) #[] #[]] w fun e w' => RetG w (l.take kk ++ x :: l.drop kk) e w' := by
 have k0 : (0 : Int) ≤ (kk : Int) := Int.natCast_nonneg _
 have k1 : (kk : Int) ≤ (l.length : Int) := by omega
 have k2 : (kk : Int) ≤ (cap : Int) := by omega
 have k4 : (l.length : Int) ≤ (cap : Int) := by omega
 have k5 : (l.length : Int) ≤ 70 := by omega
 have k6 : (kk : Int) < (cap : Int) := by omega
 have k7 : ¬ cap = kk := by omega
 unfold maxLen at hcm
 have BW := Lib.hid (show Below w.heap.size w ((w.alloc (.cells #[.int .i64 x.s, .int .i64 x.o, .int .i64 x.p, .int .i64 x.m, .int .i64 x.u] 52)).alloc (.cells #[.func (.func 64) #[] #[]] 139)) from ((Below.refl _ _).alloc (Nat.le_refl _) _).alloc (by simp) _)
 have SL := Lib.hid (sl.below BW.out)
 have oX := Lib.hid (Own.alloc (own_at (w := w) [.int .i64 x.s, .int .i64 x.o, .int .i64 x.p, .int .i64 x.m, .int .i64 x.u] 52 rfl) (.cells #[.func (.func 64) #[] #[]] 139))
 have oA := Lib.hid (own_at (w := w.alloc (.cells #[.int .i64 x.s, .int .i64 x.o, .int .i64 x.p, .int .i64 x.m, .int .i64 x.u] 52)) (n := w.heap.size + 1) [.func (.func 64) #[] #[]] 139 (by simp))
 have HI := Lib.hid hi
 have HQ := Lib.hid (show ∀ (d : Gr) (wx : World), Below ((w.alloc (.cells #[.int .i64 x.s, .int .i64 x.o, .int .i64 x.p, .int .i64 x.m, .int .i64 x.u] 52)).alloc (.cells #[.func (.func 64) #[] #[]] 139)).heap.size ((w.alloc (.cells #[.int .i64 x.s, .int .i64 x.o, .int .i64 x.p, .int .i64 x.m, .int .i64 x.u] 52)).alloc (.cells #[.func (.func 64) #[] #[]] 139)) wx → Calls Tryz.prog 98 #[.agg #[.int .i64 d.s, .int .i64 d.o, .int .i64 d.p, .int .i64 d.m, .int .i64 d.u], .pointer (some ⟨(w.heap.size + 1), 0, none⟩), .pointer (some ⟨w.heap.size, 0, none⟩)] wx fun e w' => e = .returned (.bool ((fun d : Gr => decide (x.s < d.s)) d)) ∧ Below wx.heap.size wx w' from fun d wx hbx => insg_any (w.heap.size + 1) w.heap.size x d wx (Nat.lt_of_lt_of_le (by first | omega | (simp; done) | (simp; omega)) hbx.size) (Nat.lt_of_lt_of_le (by first | omega | (simp; done) | (simp; omega)) hbx.size) ((hbx.cell (p := ⟨w.heap.size + 1, 0, none⟩) (by first | omega | (simp; done) | (simp; omega))).trans (oA.out.cell (i := 0) rfl)) ((hbx.cell (p := ⟨w.heap.size, 0, none⟩) (by first | omega | (simp; done) | (simp; omega))).trans (oX.out.cell (i := 0) rfl)) ((hbx.cell (p := ⟨w.heap.size, 1, none⟩) (by first | omega | (simp; done) | (simp; omega))).trans (oX.out.cell (i := 1) rfl)) ((hbx.cell (p := ⟨w.heap.size, 2, none⟩) (by first | omega | (simp; done) | (simp; omega))).trans (oX.out.cell (i := 2) rfl)) ((hbx.cell (p := ⟨w.heap.size, 3, none⟩) (by first | omega | (simp; done) | (simp; omega))).trans (oX.out.cell (i := 3) rfl)) ((hbx.cell (p := ⟨w.heap.size, 4, none⟩) (by first | omega | (simp; done) | (simp; omega))).trans (oX.out.cell (i := 4) rfl)))
 clear hi sl
 go_enter Tryz.func73, Tryz.ntmps73
 go_wp2_with (first | (go_at_call 22; refine (ix_insg_lit _ _ (w.heap.size + 1) w.heap.size (fun d : Gr => decide (x.s < d.s)) ((w.alloc (.cells #[.int .i64 x.s, .int .i64 x.o, .int .i64 x.p, .int .i64 x.m, .int .i64 x.u] 52)).alloc (.cells #[.func (.func 64) #[] #[]] 139)).heap.size ((kk : Int)) _ SL.out (Nat.le_refl _) HQ.out HI.out).mono ?_; rintro e w1 ⟨rfl, hb2⟩; have B1 := Lib.hid (belowTo BW.out hb2 BW.out.size); have X1 := Lib.hid (oX.out.below hb2); have S1 := Lib.hid (SL.out.below hb2); clear hb2; obtain ⟨x0, x1, x2, x3, x4, _, _⟩ := own5 X1.out) | fail)
 have OXd := Lib.hid X1.out.drew
 have SD := Lib.hid (S1.out.below (Below.refl _ _).drew)
 have BD := Lib.hid B1.out.drew
 obtain ⟨y0, y1, y2, y3, y4, _, _⟩ := own5 OXd.out
 clear oX oA SL
 refine region_H 11 #[false, false, false, false, false, false, false, false, false, false, false] (by kernel_rfl) (by kernel_rfl) (fun w' => w'.cell? ⟨w.heap.size, 0, none⟩ = some (.int .i64 x.s) ∧ w'.cell? ⟨w.heap.size, 1, none⟩ = some (.int .i64 x.o) ∧ w'.cell? ⟨w.heap.size, 2, none⟩ = some (.int .i64 x.p) ∧ w'.cell? ⟨w.heap.size, 3, none⟩ = some (.int .i64 x.m) ∧ w'.cell? ⟨w.heap.size, 4, none⟩ = some (.int .i64 x.u)) (by kernel_rfl) ?x73s (fun hHeld => ?x73r)
 case x73s => exact ⟨y0, y1, y2, y3, y4⟩
 refine tH 0 15 ?_
 refine tH 1 16 ?_
 refine tH 2 17 ?_
 refine tH 3 18 ?_
 refine tH 5 20 ?_
 refine tH 6 21 ?_
 refine tH 7 22 ?_
 refine wpH_one (i := 4) (by kernel_rfl) rfl (fun K hK => ?_)
 rw [if_pos (by rfl)]
 go_simp
 have O4 := Lib.hid ((own_at (w := w1) [.int .i64 x.s, .int .i64 x.o, .int .i64 x.p, .int .i64 x.m, .int .i64 x.u] 52 rfl).drew)
 have B4 := Lib.hid ((B1.out.alloc B1.out.size (.cells #[.int .i64 x.s, .int .i64 x.o, .int .i64 x.p, .int .i64 x.m, .int .i64 x.u] 52)).drew)
 have S4 := Lib.hid ((S1.out.below (belowNew _ (.cells #[.int .i64 x.s, .int .i64 x.o, .int .i64 x.p, .int .i64 x.m, .int .i64 x.u] 52))).below (Below.refl _ _).drew)
 have X4 := Lib.hid ((X1.out.alloc (.cells #[.int .i64 x.s, .int .i64 x.o, .int .i64 x.p, .int .i64 x.m, .int .i64 x.u] 52)).drew)
 generalize (w1.alloc (.cells #[.int .i64 x.s, .int .i64 x.o, .int .i64 x.p, .int .i64 x.m, .int .i64 x.u] 52)).drew = wa at O4 B4 S4 X4 ⊢
 obtain ⟨z0, z1, z2, z3, z4, _, _⟩ := own5 X4.out
 refine hK.out _ _ (⟨z0, z1, z2, z3, z4⟩) ?_
 clear hK K hHeld
 intro hHeld
 try simp only [Act.put, List.setIfInBounds_toArray, List.set_cons_zero, List.set_cons_succ]
 refine wpH_one (i := 8) (by kernel_rfl) rfl (fun K hK => ?_)
 rw [if_pos (by rfl)]
 go_simp
 have O8 := Lib.hid (own_at (w := wa) [.slice (some ⟨b, off, none⟩) kk cap, .slice (some ⟨w1.heap.size, 0, none⟩) 1 1, .slice (some ⟨b, off + kk * 5, none⟩) (l.length - kk) (cap - kk)] 40 rfl)
 have E8 := Lib.hid (O4.out.alloc (.cells #[.slice (some ⟨b, off, none⟩) kk cap, .slice (some ⟨w1.heap.size, 0, none⟩) 1 1, .slice (some ⟨b, off + kk * 5, none⟩) (l.length - kk) (cap - kk)] 40))
 have B8 := Lib.hid (B4.out.alloc B4.out.size (.cells #[.slice (some ⟨b, off, none⟩) kk cap, .slice (some ⟨w1.heap.size, 0, none⟩) 1 1, .slice (some ⟨b, off + kk * 5, none⟩) (l.length - kk) (cap - kk)] 40))
 have S8 := Lib.hid (S4.out.below (belowNew _ (.cells #[.slice (some ⟨b, off, none⟩) kk cap, .slice (some ⟨w1.heap.size, 0, none⟩) 1 1, .slice (some ⟨b, off + kk * 5, none⟩) (l.length - kk) (cap - kk)] 40)))
 have X8 := Lib.hid (X4.out.alloc (.cells #[.slice (some ⟨b, off, none⟩) kk cap, .slice (some ⟨w1.heap.size, 0, none⟩) 1 1, .slice (some ⟨b, off + kk * 5, none⟩) (l.length - kk) (cap - kk)] 40))
 obtain ⟨u0, u1, u2, u3, u4, _, _⟩ := own5 X8.out
 refine hK.out _ _ (⟨u0, u1, u2, u3, u4⟩) ?_
 clear hK K hHeld
 intro hHeld
 try simp only [Act.put, List.setIfInBounds_toArray, List.set_cons_zero, List.set_cons_succ]
 refine wpH_one (i := 9) (by kernel_rfl) rfl (fun K hK => ?_)
 rw [if_pos (by rfl)]
 go_simp
 have FA := Lib.hid (show SlG (wa.alloc (.cells #[.slice (some ⟨b, off, none⟩) kk cap, .slice (some ⟨w1.heap.size, 0, none⟩) 1 1, .slice (some ⟨b, off + kk * 5, none⟩) (l.length - kk) (cap - kk)] 40)) (.slice (some ⟨b, off, none⟩) kk cap) (l.take kk) from S8.out.front (k := kk) (c := cap) (by omega) (by omega) (Nat.le_refl _))
 have FB := Lib.hid (show SlG (wa.alloc (.cells #[.slice (some ⟨b, off, none⟩) kk cap, .slice (some ⟨w1.heap.size, 0, none⟩) 1 1, .slice (some ⟨b, off + kk * 5, none⟩) (l.length - kk) (cap - kk)] 40)) (.slice (some ⟨b, off + kk * 5, none⟩) (l.length - kk) (cap - kk)) (l.drop kk) from S8.out.back (k := kk))
 refine (catn_g wa.heap.size _ _ _ kk 1 (l.length - kk) _ _ _ (l.take kk) [x] (l.drop kk) _ O8.out.lt (by first | rfl | (rw [List.length_take]; omega)) rfl (by first | rfl | (rw [List.length_drop])) (O8.out.cell (i := 0) rfl) (O8.out.cell (i := 1) rfl) (O8.out.cell (i := 2) rfl) FA.out (slt_new (L := grL) x E8.out) FB.out (by omega) (by omega) (by omega)).mono ?_
 rintro e w9 ⟨v9, rfl, hown, hbb⟩
 have R9 := Lib.hid (slt_of_own (L := grL) hown)
 have B9 := Lib.hid (belowTo B8.out hbb B8.out.size)
 have X9 := Lib.hid (X8.out.below hbb)
 clear hown hbb
 obtain ⟨q0, q1, q2, q3, q4, _, _⟩ := own5 X9.out
 refine hK.out _ _ (⟨q0, q1, q2, q3, q4⟩) ?_
 clear hK K hHeld
 intro hHeld
 try simp only [Act.put, List.setIfInBounds_toArray, List.set_cons_zero, List.set_cons_succ]
 refine tH 10 6 ?_
 refine wpAnyH_done (by kernel_rfl) ?_ _
 go_wp2_with fail
 go_ret
 exact ⟨_, rfl, by simpa using R9.out, B9.out⟩
set_option maxRecDepth 100000 in
set_option maxHeartbeats 2000000 in
theorem ins_mid_g (b off cap : Nat) (l : List Gr) (x : Gr) (w : World) (sl : SlG w (.slice (some ⟨b, off, none⟩) l.length cap) l) (h70 : l.length ≤ 70) (hlc : l.length ≤ cap) (hcm : cap ≤ maxLen) (kk : Nat) (hkl : kk ≤ l.length) (hkc : kk < cap) (hi : idxD (fun d : Gr => decide (x.s < d.s)) l = if kk = l.length then -1 else (kk : Int)) : Calls Tryz.prog 73 #[.slice (some ⟨b, off, none⟩) l.length cap, .agg #[.int .i64 x.s, .int .i64 x.o, .int .i64 x.p, .int .i64 x.m, .int .i64 x.u], .func (.func 64) #[] #[]] w fun e w' => RetG w (l.take kk ++ x :: l.drop kk) e w' := by
 have k0 : (0 : Int) ≤ (kk : Int) := Int.natCast_nonneg _
 have k1 : (kk : Int) ≤ (l.length : Int) := by omega
 have k2 : (kk : Int) ≤ (cap : Int) := by omega
 have k4 : (l.length : Int) ≤ (cap : Int) := by omega
 have k5 : (l.length : Int) ≤ 70 := by omega
 have k6 : (kk : Int) < (cap : Int) := by omega
 have k7 : ¬ cap = kk := by omega
 unfold maxLen at hcm
 by_cases hend : kk = l.length
 ·rw [if_pos hend] at hi
  subst hend
  exact ins_mid1_g b off cap l x w sl h70 hlc (by unfold maxLen; exact hcm) hkc hi
 ·rw [if_neg hend] at hi
  exact ins_mid2_g b off cap l x w sl h70 hlc (by unfold maxLen; exact hcm) kk (by omega) hi
set_option maxRecDepth 100000 in
set_option maxHeartbeats 2000000 in
theorem ins_end_g (b off : Nat) (l : List Gr) (x : Gr) (w : World) (sl : SlG w (.slice (some ⟨b, off, none⟩) l.length l.length) l) (h70 : l.length ≤ 70) (hcm : l.length ≤ maxLen) (hi : idxD (fun d : Gr => decide (x.s < d.s)) l = -1) : Calls Tryz.prog 73 #[.slice (some ⟨b, off, none⟩) l.length l.length, .agg #[.int .i64 x.s, .int .i64 x.o, .int .i64 x.p, .int .i64 x.m, .int .i64 x.u], .func (.func 64) #[] #[]] w fun e w' => RetG w (l ++ [x]) e w' := by
 have k0 : (0 : Int) ≤ (l.length : Int) := Int.natCast_nonneg _
 have k5 : (l.length : Int) ≤ 70 := by omega
 unfold maxLen at hcm
 have BW := Lib.hid (show Below w.heap.size w ((w.alloc (.cells #[.int .i64 x.s, .int .i64 x.o, .int .i64 x.p, .int .i64 x.m, .int .i64 x.u] 52)).alloc (.cells #[.func (.func 64) #[] #[]] 139)) from ((Below.refl _ _).alloc (Nat.le_refl _) _).alloc (by simp) _)
 have SL := Lib.hid (sl.below BW.out)
 have oX := Lib.hid (Own.alloc (own_at (w := w) [.int .i64 x.s, .int .i64 x.o, .int .i64 x.p, .int .i64 x.m, .int .i64 x.u] 52 rfl) (.cells #[.func (.func 64) #[] #[]] 139))
 have oA := Lib.hid (own_at (w := w.alloc (.cells #[.int .i64 x.s, .int .i64 x.o, .int .i64 x.p, .int .i64 x.m, .int .i64 x.u] 52)) (n := w.heap.size + 1) [.func (.func 64) #[] #[]] 139 (by simp))
 have HI := Lib.hid hi
 have HQ := Lib.hid (show ∀ (d : Gr) (wx : World), Below ((w.alloc (.cells #[.int .i64 x.s, .int .i64 x.o, .int .i64 x.p, .int .i64 x.m, .int .i64 x.u] 52)).alloc (.cells #[.func (.func 64) #[] #[]] 139)).heap.size ((w.alloc (.cells #[.int .i64 x.s, .int .i64 x.o, .int .i64 x.p, .int .i64 x.m, .int .i64 x.u] 52)).alloc (.cells #[.func (.func 64) #[] #[]] 139)) wx → Calls Tryz.prog 98 #[.agg #[.int .i64 d.s, .int .i64 d.o, .int .i64 d.p, .int .i64 d.m, .int .i64 d.u], .pointer (some ⟨(w.heap.size + 1), 0, none⟩), .pointer (some ⟨w.heap.size, 0, none⟩)] wx fun e w' => e = .returned (.bool ((fun d : Gr => decide (x.s < d.s)) d)) ∧ Below wx.heap.size wx w' from fun d wx hbx => insg_any (w.heap.size + 1) w.heap.size x d wx (Nat.lt_of_lt_of_le (by first | omega | (simp; done) | (simp; omega)) hbx.size) (Nat.lt_of_lt_of_le (by first | omega | (simp; done) | (simp; omega)) hbx.size) ((hbx.cell (p := ⟨w.heap.size + 1, 0, none⟩) (by first | omega | (simp; done) | (simp; omega))).trans (oA.out.cell (i := 0) rfl)) ((hbx.cell (p := ⟨w.heap.size, 0, none⟩) (by first | omega | (simp; done) | (simp; omega))).trans (oX.out.cell (i := 0) rfl)) ((hbx.cell (p := ⟨w.heap.size, 1, none⟩) (by first | omega | (simp; done) | (simp; omega))).trans (oX.out.cell (i := 1) rfl)) ((hbx.cell (p := ⟨w.heap.size, 2, none⟩) (by first | omega | (simp; done) | (simp; omega))).trans (oX.out.cell (i := 2) rfl)) ((hbx.cell (p := ⟨w.heap.size, 3, none⟩) (by first | omega | (simp; done) | (simp; omega))).trans (oX.out.cell (i := 3) rfl)) ((hbx.cell (p := ⟨w.heap.size, 4, none⟩) (by first | omega | (simp; done) | (simp; omega))).trans (oX.out.cell (i := 4) rfl)))
 clear hi sl
 go_enter Tryz.func73, Tryz.ntmps73
 go_wp2_with (first | (go_at_call 22; refine (ix_insg_lit _ _ (w.heap.size + 1) w.heap.size (fun d : Gr => decide (x.s < d.s)) ((w.alloc (.cells #[.int .i64 x.s, .int .i64 x.o, .int .i64 x.p, .int .i64 x.m, .int .i64 x.u] 52)).alloc (.cells #[.func (.func 64) #[] #[]] 139)).heap.size (-1) _ SL.out (Nat.le_refl _) HQ.out HI.out).mono ?_; rintro e w1 ⟨rfl, hb2⟩; have B1 := Lib.hid (belowTo BW.out hb2 BW.out.size); have X1 := Lib.hid (oX.out.below hb2); have S1 := Lib.hid (SL.out.below hb2); clear hb2; obtain ⟨x0, x1, x2, x3, x4, _, _⟩ := own5 X1.out) | fail)
 have OXd := Lib.hid X1.out.drew
 have SD := Lib.hid (S1.out.below (Below.refl _ _).drew)
 have BD := Lib.hid B1.out.drew
 obtain ⟨y0, y1, y2, y3, y4, _, _⟩ := own5 OXd.out
 clear oX oA SL
 refine region_H 11 #[false, false, false, false, false, false, false, false, false, false, false] (by kernel_rfl) (by kernel_rfl) (fun w' => w'.cell? ⟨w.heap.size, 0, none⟩ = some (.int .i64 x.s) ∧ w'.cell? ⟨w.heap.size, 1, none⟩ = some (.int .i64 x.o) ∧ w'.cell? ⟨w.heap.size, 2, none⟩ = some (.int .i64 x.p) ∧ w'.cell? ⟨w.heap.size, 3, none⟩ = some (.int .i64 x.m) ∧ w'.cell? ⟨w.heap.size, 4, none⟩ = some (.int .i64 x.u)) (by kernel_rfl) ?x85s (fun hHeld => ?x85r)
 case x85s => exact ⟨y0, y1, y2, y3, y4⟩
 refine tH 0 15 ?_
 refine tH 1 16 ?_
 refine tH 2 17 ?_
 refine tH 3 18 ?_
 refine tH 5 20 ?_
 refine tH 6 21 ?_
 refine tH 7 22 ?_
 refine wpH_one (i := 4) (by kernel_rfl) rfl (fun K hK => ?_)
 rw [if_pos (by rfl)]
 go_simp
 have O4 := Lib.hid ((own_at (w := w1) [.int .i64 x.s, .int .i64 x.o, .int .i64 x.p, .int .i64 x.m, .int .i64 x.u] 52 rfl).drew)
 have B4 := Lib.hid ((B1.out.alloc B1.out.size (.cells #[.int .i64 x.s, .int .i64 x.o, .int .i64 x.p, .int .i64 x.m, .int .i64 x.u] 52)).drew)
 have S4 := Lib.hid ((S1.out.below (belowNew _ (.cells #[.int .i64 x.s, .int .i64 x.o, .int .i64 x.p, .int .i64 x.m, .int .i64 x.u] 52))).below (Below.refl _ _).drew)
 have X4 := Lib.hid ((X1.out.alloc (.cells #[.int .i64 x.s, .int .i64 x.o, .int .i64 x.p, .int .i64 x.m, .int .i64 x.u] 52)).drew)
 generalize (w1.alloc (.cells #[.int .i64 x.s, .int .i64 x.o, .int .i64 x.p, .int .i64 x.m, .int .i64 x.u] 52)).drew = wa at O4 B4 S4 X4 ⊢
 obtain ⟨z0, z1, z2, z3, z4, _, _⟩ := own5 X4.out
 refine hK.out _ _ (⟨z0, z1, z2, z3, z4⟩) ?_
 clear hK K hHeld
 intro hHeld
 try simp only [Act.put, List.setIfInBounds_toArray, List.set_cons_zero, List.set_cons_succ]
 refine wpH_one (i := 8) (by kernel_rfl) rfl (fun K hK => ?_)
 rw [if_pos (by rfl)]
 go_simp
 have O8 := Lib.hid (own_at (w := wa) [.slice (some ⟨b, off, none⟩) l.length l.length, .slice (some ⟨w1.heap.size, 0, none⟩) 1 1, .slice (some ⟨b, off, none⟩) 0 0] 40 rfl)
 have E8 := Lib.hid (O4.out.alloc (.cells #[.slice (some ⟨b, off, none⟩) l.length l.length, .slice (some ⟨w1.heap.size, 0, none⟩) 1 1, .slice (some ⟨b, off, none⟩) 0 0] 40))
 have B8 := Lib.hid (B4.out.alloc B4.out.size (.cells #[.slice (some ⟨b, off, none⟩) l.length l.length, .slice (some ⟨w1.heap.size, 0, none⟩) 1 1, .slice (some ⟨b, off, none⟩) 0 0] 40))
 have S8 := Lib.hid (S4.out.below (belowNew _ (.cells #[.slice (some ⟨b, off, none⟩) l.length l.length, .slice (some ⟨w1.heap.size, 0, none⟩) 1 1, .slice (some ⟨b, off, none⟩) 0 0] 40)))
 have X8 := Lib.hid (X4.out.alloc (.cells #[.slice (some ⟨b, off, none⟩) l.length l.length, .slice (some ⟨w1.heap.size, 0, none⟩) 1 1, .slice (some ⟨b, off, none⟩) 0 0] 40))
 obtain ⟨u0, u1, u2, u3, u4, _, _⟩ := own5 X8.out
 refine hK.out _ _ (⟨u0, u1, u2, u3, u4⟩) ?_
 clear hK K hHeld
 intro hHeld
 try simp only [Act.put, List.setIfInBounds_toArray, List.set_cons_zero, List.set_cons_succ]
 refine wpH_one (i := 9) (by kernel_rfl) rfl (fun K hK => ?_)
 rw [if_pos (by rfl)]
 go_simp
 have FA := Lib.hid (show SlG (wa.alloc (.cells #[.slice (some ⟨b, off, none⟩) l.length l.length, .slice (some ⟨w1.heap.size, 0, none⟩) 1 1, .slice (some ⟨b, off, none⟩) 0 0] 40)) (.slice (some ⟨b, off, none⟩) l.length l.length) l from S8.out)
 have FB := Lib.hid (show SlG (wa.alloc (.cells #[.slice (some ⟨b, off, none⟩) l.length l.length, .slice (some ⟨w1.heap.size, 0, none⟩) 1 1, .slice (some ⟨b, off, none⟩) 0 0] 40)) (.slice (some ⟨b, off, none⟩) 0 0) ([] : List Gr) from slt_none0 (L := grL) _ (some ⟨b, off, none⟩))
 refine (catn_g wa.heap.size _ _ _ l.length 1 0 _ _ _ l [x] ([] : List Gr) _ O8.out.lt (by first | rfl | (rw [List.length_take]; omega)) rfl (by first | rfl | (rw [List.length_drop])) (O8.out.cell (i := 0) rfl) (O8.out.cell (i := 1) rfl) (O8.out.cell (i := 2) rfl) FA.out (slt_new (L := grL) x E8.out) FB.out (by omega) (by omega) (by omega)).mono ?_
 rintro e w9 ⟨v9, rfl, hown, hbb⟩
 have R9 := Lib.hid (slt_of_own (L := grL) hown)
 have B9 := Lib.hid (belowTo B8.out hbb B8.out.size)
 have X9 := Lib.hid (X8.out.below hbb)
 clear hown hbb
 obtain ⟨q0, q1, q2, q3, q4, _, _⟩ := own5 X9.out
 refine hK.out _ _ (⟨q0, q1, q2, q3, q4⟩) ?_
 clear hK K hHeld
 intro hHeld
 try simp only [Act.put, List.setIfInBounds_toArray, List.set_cons_zero, List.set_cons_succ]
 refine tH 10 6 ?_
 refine wpAnyH_done (by kernel_rfl) ?_ _
 go_wp2_with fail
 go_ret
 exact ⟨_, rfl, by simpa using R9.out, B9.out⟩
set_option maxRecDepth 100000 in
set_option maxHeartbeats 2000000 in
theorem ins_emp_g (b off cap : Nat) (fo : Option Nat) (l : List Gr) (x : Gr) (w : World) (sl : SlG w (.slice (some ⟨b, off, fo⟩) 0 cap) l) (h70 : l.length ≤ 70) (hl : l = []) (hcm : cap ≤ maxLen) (hi : idxD (fun d : Gr => decide (x.s < d.s)) l = -1) : Calls Tryz.prog 73 #[.slice (some ⟨b, off, fo⟩) 0 cap, .agg #[.int .i64 x.s, .int .i64 x.o, .int .i64 x.p, .int .i64 x.m, .int .i64 x.u], .func (.func 64) #[] #[]] w fun e w' => RetG w ([x]) e w' := by
 subst hl
 have k0 : (0 : Int) ≤ (cap : Int) := Int.natCast_nonneg _
 unfold maxLen at hcm
 have BW := Lib.hid (show Below w.heap.size w ((w.alloc (.cells #[.int .i64 x.s, .int .i64 x.o, .int .i64 x.p, .int .i64 x.m, .int .i64 x.u] 52)).alloc (.cells #[.func (.func 64) #[] #[]] 139)) from ((Below.refl _ _).alloc (Nat.le_refl _) _).alloc (by simp) _)
 have SL := Lib.hid (sl.below BW.out)
 have oX := Lib.hid (Own.alloc (own_at (w := w) [.int .i64 x.s, .int .i64 x.o, .int .i64 x.p, .int .i64 x.m, .int .i64 x.u] 52 rfl) (.cells #[.func (.func 64) #[] #[]] 139))
 have oA := Lib.hid (own_at (w := w.alloc (.cells #[.int .i64 x.s, .int .i64 x.o, .int .i64 x.p, .int .i64 x.m, .int .i64 x.u] 52)) (n := w.heap.size + 1) [.func (.func 64) #[] #[]] 139 (by simp))
 have HI := Lib.hid hi
 have HQ := Lib.hid (show ∀ (d : Gr) (wx : World), Below ((w.alloc (.cells #[.int .i64 x.s, .int .i64 x.o, .int .i64 x.p, .int .i64 x.m, .int .i64 x.u] 52)).alloc (.cells #[.func (.func 64) #[] #[]] 139)).heap.size ((w.alloc (.cells #[.int .i64 x.s, .int .i64 x.o, .int .i64 x.p, .int .i64 x.m, .int .i64 x.u] 52)).alloc (.cells #[.func (.func 64) #[] #[]] 139)) wx → Calls Tryz.prog 98 #[.agg #[.int .i64 d.s, .int .i64 d.o, .int .i64 d.p, .int .i64 d.m, .int .i64 d.u], .pointer (some ⟨(w.heap.size + 1), 0, none⟩), .pointer (some ⟨w.heap.size, 0, none⟩)] wx fun e w' => e = .returned (.bool ((fun d : Gr => decide (x.s < d.s)) d)) ∧ Below wx.heap.size wx w' from fun d wx hbx => insg_any (w.heap.size + 1) w.heap.size x d wx (Nat.lt_of_lt_of_le (by first | omega | (simp; done) | (simp; omega)) hbx.size) (Nat.lt_of_lt_of_le (by first | omega | (simp; done) | (simp; omega)) hbx.size) ((hbx.cell (p := ⟨w.heap.size + 1, 0, none⟩) (by first | omega | (simp; done) | (simp; omega))).trans (oA.out.cell (i := 0) rfl)) ((hbx.cell (p := ⟨w.heap.size, 0, none⟩) (by first | omega | (simp; done) | (simp; omega))).trans (oX.out.cell (i := 0) rfl)) ((hbx.cell (p := ⟨w.heap.size, 1, none⟩) (by first | omega | (simp; done) | (simp; omega))).trans (oX.out.cell (i := 1) rfl)) ((hbx.cell (p := ⟨w.heap.size, 2, none⟩) (by first | omega | (simp; done) | (simp; omega))).trans (oX.out.cell (i := 2) rfl)) ((hbx.cell (p := ⟨w.heap.size, 3, none⟩) (by first | omega | (simp; done) | (simp; omega))).trans (oX.out.cell (i := 3) rfl)) ((hbx.cell (p := ⟨w.heap.size, 4, none⟩) (by first | omega | (simp; done) | (simp; omega))).trans (oX.out.cell (i := 4) rfl)))
 clear hi sl
 go_enter Tryz.func73, Tryz.ntmps73
 go_wp2_with (first | (go_at_call 22; refine (ix_insg_lit _ _ (w.heap.size + 1) w.heap.size (fun d : Gr => decide (x.s < d.s)) ((w.alloc (.cells #[.int .i64 x.s, .int .i64 x.o, .int .i64 x.p, .int .i64 x.m, .int .i64 x.u] 52)).alloc (.cells #[.func (.func 64) #[] #[]] 139)).heap.size (-1) _ SL.out (Nat.le_refl _) HQ.out HI.out).mono ?_; rintro e w1 ⟨rfl, hb2⟩; have B1 := Lib.hid (belowTo BW.out hb2 BW.out.size); have X1 := Lib.hid (oX.out.below hb2); have S1 := Lib.hid (SL.out.below hb2); clear hb2; obtain ⟨x0, x1, x2, x3, x4, _, _⟩ := own5 X1.out) | fail)
 have OXd := Lib.hid X1.out.drew
 have SD := Lib.hid (S1.out.below (Below.refl _ _).drew)
 have BD := Lib.hid B1.out.drew
 obtain ⟨y0, y1, y2, y3, y4, _, _⟩ := own5 OXd.out
 clear oX oA SL
 refine region_H 11 #[false, false, false, false, false, false, false, false, false, false, false] (by kernel_rfl) (by kernel_rfl) (fun w' => w'.cell? ⟨w.heap.size, 0, none⟩ = some (.int .i64 x.s) ∧ w'.cell? ⟨w.heap.size, 1, none⟩ = some (.int .i64 x.o) ∧ w'.cell? ⟨w.heap.size, 2, none⟩ = some (.int .i64 x.p) ∧ w'.cell? ⟨w.heap.size, 3, none⟩ = some (.int .i64 x.m) ∧ w'.cell? ⟨w.heap.size, 4, none⟩ = some (.int .i64 x.u)) (by kernel_rfl) ?x97s (fun hHeld => ?x97r)
 case x97s => exact ⟨y0, y1, y2, y3, y4⟩
 refine tH 0 15 ?_
 refine tH 1 16 ?_
 refine tH 2 17 ?_
 refine tH 3 18 ?_
 refine tH 5 20 ?_
 refine tH 6 21 ?_
 refine tH 7 22 ?_
 refine wpH_one (i := 4) (by kernel_rfl) rfl (fun K hK => ?_)
 rw [if_pos (by rfl)]
 go_simp
 have O4 := Lib.hid ((own_at (w := w1) [.int .i64 x.s, .int .i64 x.o, .int .i64 x.p, .int .i64 x.m, .int .i64 x.u] 52 rfl).drew)
 have B4 := Lib.hid ((B1.out.alloc B1.out.size (.cells #[.int .i64 x.s, .int .i64 x.o, .int .i64 x.p, .int .i64 x.m, .int .i64 x.u] 52)).drew)
 have S4 := Lib.hid ((S1.out.below (belowNew _ (.cells #[.int .i64 x.s, .int .i64 x.o, .int .i64 x.p, .int .i64 x.m, .int .i64 x.u] 52))).below (Below.refl _ _).drew)
 have X4 := Lib.hid ((X1.out.alloc (.cells #[.int .i64 x.s, .int .i64 x.o, .int .i64 x.p, .int .i64 x.m, .int .i64 x.u] 52)).drew)
 generalize (w1.alloc (.cells #[.int .i64 x.s, .int .i64 x.o, .int .i64 x.p, .int .i64 x.m, .int .i64 x.u] 52)).drew = wa at O4 B4 S4 X4 ⊢
 obtain ⟨z0, z1, z2, z3, z4, _, _⟩ := own5 X4.out
 refine hK.out _ _ (⟨z0, z1, z2, z3, z4⟩) ?_
 clear hK K hHeld
 intro hHeld
 try simp only [Act.put, List.setIfInBounds_toArray, List.set_cons_zero, List.set_cons_succ]
 refine wpH_one (i := 8) (by kernel_rfl) rfl (fun K hK => ?_)
 rw [if_pos (by rfl)]
 go_simp
 have O8 := Lib.hid (own_at (w := wa) [.slice (some ⟨b, off, fo⟩) 0 cap, .slice (some ⟨w1.heap.size, 0, none⟩) 1 1, .slice (some ⟨b, off, fo⟩) 0 cap] 40 rfl)
 have E8 := Lib.hid (O4.out.alloc (.cells #[.slice (some ⟨b, off, fo⟩) 0 cap, .slice (some ⟨w1.heap.size, 0, none⟩) 1 1, .slice (some ⟨b, off, fo⟩) 0 cap] 40))
 have B8 := Lib.hid (B4.out.alloc B4.out.size (.cells #[.slice (some ⟨b, off, fo⟩) 0 cap, .slice (some ⟨w1.heap.size, 0, none⟩) 1 1, .slice (some ⟨b, off, fo⟩) 0 cap] 40))
 have S8 := Lib.hid (S4.out.below (belowNew _ (.cells #[.slice (some ⟨b, off, fo⟩) 0 cap, .slice (some ⟨w1.heap.size, 0, none⟩) 1 1, .slice (some ⟨b, off, fo⟩) 0 cap] 40)))
 have X8 := Lib.hid (X4.out.alloc (.cells #[.slice (some ⟨b, off, fo⟩) 0 cap, .slice (some ⟨w1.heap.size, 0, none⟩) 1 1, .slice (some ⟨b, off, fo⟩) 0 cap] 40))
 obtain ⟨u0, u1, u2, u3, u4, _, _⟩ := own5 X8.out
 refine hK.out _ _ (⟨u0, u1, u2, u3, u4⟩) ?_
 clear hK K hHeld
 intro hHeld
 try simp only [Act.put, List.setIfInBounds_toArray, List.set_cons_zero, List.set_cons_succ]
 refine wpH_one (i := 9) (by kernel_rfl) rfl (fun K hK => ?_)
 rw [if_pos (by rfl)]
 go_simp
 have FA := Lib.hid (show SlG (wa.alloc (.cells #[.slice (some ⟨b, off, fo⟩) 0 cap, .slice (some ⟨w1.heap.size, 0, none⟩) 1 1, .slice (some ⟨b, off, fo⟩) 0 cap] 40)) (.slice (some ⟨b, off, fo⟩) 0 cap) ([] : List Gr) from S8.out)
 have FB := Lib.hid (show SlG (wa.alloc (.cells #[.slice (some ⟨b, off, fo⟩) 0 cap, .slice (some ⟨w1.heap.size, 0, none⟩) 1 1, .slice (some ⟨b, off, fo⟩) 0 cap] 40)) (.slice (some ⟨b, off, fo⟩) 0 cap) ([] : List Gr) from S8.out)
 refine (catn_g wa.heap.size _ _ _ 0 1 0 _ _ _ ([] : List Gr) [x] ([] : List Gr) _ O8.out.lt (by first | rfl | (rw [List.length_take]; omega)) rfl (by first | rfl | (rw [List.length_drop])) (O8.out.cell (i := 0) rfl) (O8.out.cell (i := 1) rfl) (O8.out.cell (i := 2) rfl) FA.out (slt_new (L := grL) x E8.out) FB.out (by omega) (by omega) (by omega)).mono ?_
 rintro e w9 ⟨v9, rfl, hown, hbb⟩
 have R9 := Lib.hid (slt_of_own (L := grL) hown)
 have B9 := Lib.hid (belowTo B8.out hbb B8.out.size)
 have X9 := Lib.hid (X8.out.below hbb)
 clear hown hbb
 obtain ⟨q0, q1, q2, q3, q4, _, _⟩ := own5 X9.out
 refine hK.out _ _ (⟨q0, q1, q2, q3, q4⟩) ?_
 clear hK K hHeld
 intro hHeld
 try simp only [Act.put, List.setIfInBounds_toArray, List.set_cons_zero, List.set_cons_succ]
 refine tH 10 6 ?_
 refine wpAnyH_done (by kernel_rfl) ?_ _
 go_wp2_with fail
 go_ret
 exact ⟨_, rfl, by simpa using R9.out, B9.out⟩
set_option maxRecDepth 100000 in
set_option maxHeartbeats 2000000 in
theorem ins_nil_g  (l : List Gr) (x : Gr) (w : World) (sl : SlG w (.slice none 0 0) l) (h70 : l.length ≤ 70) (hl : l = []) (hi : idxD (fun d : Gr => decide (x.s < d.s)) l = -1) : Calls Tryz.prog 73 #[.slice none 0 0, .agg #[.int .i64 x.s, .int .i64 x.o, .int .i64 x.p, .int .i64 x.m, .int .i64 x.u], .func (.func 64) #[] #[]] w fun e w' => RetG w ([x]) e w' := by
 subst hl
 have BW := Lib.hid (show Below w.heap.size w ((w.alloc (.cells #[.int .i64 x.s, .int .i64 x.o, .int .i64 x.p, .int .i64 x.m, .int .i64 x.u] 52)).alloc (.cells #[.func (.func 64) #[] #[]] 139)) from ((Below.refl _ _).alloc (Nat.le_refl _) _).alloc (by simp) _)
 have SL := Lib.hid (sl.below BW.out)
 have oX := Lib.hid (Own.alloc (own_at (w := w) [.int .i64 x.s, .int .i64 x.o, .int .i64 x.p, .int .i64 x.m, .int .i64 x.u] 52 rfl) (.cells #[.func (.func 64) #[] #[]] 139))
 have oA := Lib.hid (own_at (w := w.alloc (.cells #[.int .i64 x.s, .int .i64 x.o, .int .i64 x.p, .int .i64 x.m, .int .i64 x.u] 52)) (n := w.heap.size + 1) [.func (.func 64) #[] #[]] 139 (by simp))
 have HI := Lib.hid hi
 have HQ := Lib.hid (show ∀ (d : Gr) (wx : World), Below ((w.alloc (.cells #[.int .i64 x.s, .int .i64 x.o, .int .i64 x.p, .int .i64 x.m, .int .i64 x.u] 52)).alloc (.cells #[.func (.func 64) #[] #[]] 139)).heap.size ((w.alloc (.cells #[.int .i64 x.s, .int .i64 x.o, .int .i64 x.p, .int .i64 x.m, .int .i64 x.u] 52)).alloc (.cells #[.func (.func 64) #[] #[]] 139)) wx → Calls Tryz.prog 98 #[.agg #[.int .i64 d.s, .int .i64 d.o, .int .i64 d.p, .int .i64 d.m, .int .i64 d.u], .pointer (some ⟨(w.heap.size + 1), 0, none⟩), .pointer (some ⟨w.heap.size, 0, none⟩)] wx fun e w' => e = .returned (.bool ((fun d : Gr => decide (x.s < d.s)) d)) ∧ Below wx.heap.size wx w' from fun d wx hbx => insg_any (w.heap.size + 1) w.heap.size x d wx (Nat.lt_of_lt_of_le (by first | omega | (simp; done) | (simp; omega)) hbx.size) (Nat.lt_of_lt_of_le (by first | omega | (simp; done) | (simp; omega)) hbx.size) ((hbx.cell (p := ⟨w.heap.size + 1, 0, none⟩) (by first | omega | (simp; done) | (simp; omega))).trans (oA.out.cell (i := 0) rfl)) ((hbx.cell (p := ⟨w.heap.size, 0, none⟩) (by first | omega | (simp; done) | (simp; omega))).trans (oX.out.cell (i := 0) rfl)) ((hbx.cell (p := ⟨w.heap.size, 1, none⟩) (by first | omega | (simp; done) | (simp; omega))).trans (oX.out.cell (i := 1) rfl)) ((hbx.cell (p := ⟨w.heap.size, 2, none⟩) (by first | omega | (simp; done) | (simp; omega))).trans (oX.out.cell (i := 2) rfl)) ((hbx.cell (p := ⟨w.heap.size, 3, none⟩) (by first | omega | (simp; done) | (simp; omega))).trans (oX.out.cell (i := 3) rfl)) ((hbx.cell (p := ⟨w.heap.size, 4, none⟩) (by first | omega | (simp; done) | (simp; omega))).trans (oX.out.cell (i := 4) rfl)))
 clear hi sl
 go_enter Tryz.func73, Tryz.ntmps73
 go_wp2_with (first | (go_at_call 22; refine (ix_insg_lit _ _ (w.heap.size + 1) w.heap.size (fun d : Gr => decide (x.s < d.s)) ((w.alloc (.cells #[.int .i64 x.s, .int .i64 x.o, .int .i64 x.p, .int .i64 x.m, .int .i64 x.u] 52)).alloc (.cells #[.func (.func 64) #[] #[]] 139)).heap.size (-1) _ SL.out (Nat.le_refl _) HQ.out HI.out).mono ?_; rintro e w1 ⟨rfl, hb2⟩; have B1 := Lib.hid (belowTo BW.out hb2 BW.out.size); have X1 := Lib.hid (oX.out.below hb2); have S1 := Lib.hid (SL.out.below hb2); clear hb2; obtain ⟨x0, x1, x2, x3, x4, _, _⟩ := own5 X1.out) | fail)
 have OXd := Lib.hid X1.out.drew
 have SD := Lib.hid (S1.out.below (Below.refl _ _).drew)
 have BD := Lib.hid B1.out.drew
 obtain ⟨y0, y1, y2, y3, y4, _, _⟩ := own5 OXd.out
 clear oX oA SL
 refine region_H 11 #[false, false, false, false, false, false, false, false, false, false, false] (by kernel_rfl) (by kernel_rfl) (fun w' => w'.cell? ⟨w.heap.size, 0, none⟩ = some (.int .i64 x.s) ∧ w'.cell? ⟨w.heap.size, 1, none⟩ = some (.int .i64 x.o) ∧ w'.cell? ⟨w.heap.size, 2, none⟩ = some (.int .i64 x.p) ∧ w'.cell? ⟨w.heap.size, 3, none⟩ = some (.int .i64 x.m) ∧ w'.cell? ⟨w.heap.size, 4, none⟩ = some (.int .i64 x.u)) (by kernel_rfl) ?x109s (fun hHeld => ?x109r)
 case x109s => exact ⟨y0, y1, y2, y3, y4⟩
 refine tH 0 15 ?_
 refine tH 1 16 ?_
 refine tH 2 17 ?_
 refine tH 3 18 ?_
 refine tH 5 20 ?_
 refine tH 6 21 ?_
 refine tH 7 22 ?_
 refine wpH_one (i := 4) (by kernel_rfl) rfl (fun K hK => ?_)
 rw [if_pos (by rfl)]
 go_simp
 have O4 := Lib.hid ((own_at (w := w1) [.int .i64 x.s, .int .i64 x.o, .int .i64 x.p, .int .i64 x.m, .int .i64 x.u] 52 rfl).drew)
 have B4 := Lib.hid ((B1.out.alloc B1.out.size (.cells #[.int .i64 x.s, .int .i64 x.o, .int .i64 x.p, .int .i64 x.m, .int .i64 x.u] 52)).drew)
 have S4 := Lib.hid ((S1.out.below (belowNew _ (.cells #[.int .i64 x.s, .int .i64 x.o, .int .i64 x.p, .int .i64 x.m, .int .i64 x.u] 52))).below (Below.refl _ _).drew)
 have X4 := Lib.hid ((X1.out.alloc (.cells #[.int .i64 x.s, .int .i64 x.o, .int .i64 x.p, .int .i64 x.m, .int .i64 x.u] 52)).drew)
 generalize (w1.alloc (.cells #[.int .i64 x.s, .int .i64 x.o, .int .i64 x.p, .int .i64 x.m, .int .i64 x.u] 52)).drew = wa at O4 B4 S4 X4 ⊢
 obtain ⟨z0, z1, z2, z3, z4, _, _⟩ := own5 X4.out
 refine hK.out _ _ (⟨z0, z1, z2, z3, z4⟩) ?_
 clear hK K hHeld
 intro hHeld
 try simp only [Act.put, List.setIfInBounds_toArray, List.set_cons_zero, List.set_cons_succ]
 refine wpH_one (i := 8) (by kernel_rfl) rfl (fun K hK => ?_)
 rw [if_pos (by rfl)]
 go_simp
 have O8 := Lib.hid (own_at (w := wa) [.slice none 0 0, .slice (some ⟨w1.heap.size, 0, none⟩) 1 1, .slice none 0 0] 40 rfl)
 have E8 := Lib.hid (O4.out.alloc (.cells #[.slice none 0 0, .slice (some ⟨w1.heap.size, 0, none⟩) 1 1, .slice none 0 0] 40))
 have B8 := Lib.hid (B4.out.alloc B4.out.size (.cells #[.slice none 0 0, .slice (some ⟨w1.heap.size, 0, none⟩) 1 1, .slice none 0 0] 40))
 have S8 := Lib.hid (S4.out.below (belowNew _ (.cells #[.slice none 0 0, .slice (some ⟨w1.heap.size, 0, none⟩) 1 1, .slice none 0 0] 40)))
 have X8 := Lib.hid (X4.out.alloc (.cells #[.slice none 0 0, .slice (some ⟨w1.heap.size, 0, none⟩) 1 1, .slice none 0 0] 40))
 obtain ⟨u0, u1, u2, u3, u4, _, _⟩ := own5 X8.out
 refine hK.out _ _ (⟨u0, u1, u2, u3, u4⟩) ?_
 clear hK K hHeld
 intro hHeld
 try simp only [Act.put, List.setIfInBounds_toArray, List.set_cons_zero, List.set_cons_succ]
 refine wpH_one (i := 9) (by kernel_rfl) rfl (fun K hK => ?_)
 rw [if_pos (by rfl)]
 go_simp
 refine (cat0_g wa.heap.size _ _ _ _ O8.out.lt (O8.out.cell (i := 0) rfl) (O8.out.cell (i := 1) rfl) (O8.out.cell (i := 2) rfl) (slt_new (L := grL) x E8.out) (by simp)).mono ?_
 rintro e w9 ⟨v9, rfl, hown, hbb⟩
 have R9 := Lib.hid (slt_of_own (L := grL) hown)
 have B9 := Lib.hid (belowTo B8.out hbb B8.out.size)
 have X9 := Lib.hid (X8.out.below hbb)
 clear hown hbb
 obtain ⟨q0, q1, q2, q3, q4, _, _⟩ := own5 X9.out
 refine hK.out _ _ (⟨q0, q1, q2, q3, q4⟩) ?_
 clear hK K hHeld
 intro hHeld
 try simp only [Act.put, List.setIfInBounds_toArray, List.set_cons_zero, List.set_cons_succ]
 refine tH 10 6 ?_
 refine wpAnyH_done (by kernel_rfl) ?_ _
 go_wp2_with fail
 go_ret
 exact ⟨_, rfl, by exact R9.out, B9.out⟩
theorem ins_g (v : Value) (l : List Gr) (x : Gr) (w : World) (sl : SlG w v l) (h70 : l.length ≤ 70) : Calls Tryz.prog 73 #[v, .agg #[.int .i64 x.s, .int .i64 x.o, .int .i64 x.p, .int .i64 x.m, .int .i64 x.u], .func (.func 64) #[] #[]] w fun e w' => RetG w (adG x l) e w' := by
 obtain ⟨p, cap, e0, hlc, hcm, hpn⟩ := sl.form l.length rfl
 subst e0
 have hnl := sl.none_len
 cases p with
 | none =>
  obtain rfl := hnl rfl
  obtain rfl := hpn rfl
  exact ins_nil_g [] x w sl h70 rfl rfl
 | some ad =>
  obtain ⟨b, off, fo⟩ := ad
  by_cases hl0 : l = []
  ·subst hl0
   exact ins_emp_g b off cap fo [] x w sl h70 rfl hcm rfl
  obtain rfl : fo = none := slt_plain sl (List.length_pos_iff.2 hl0)
  rcases idx_cases (fun d : Gr => decide (x.s < d.s)) l with ⟨hi, hany⟩ | ⟨k, r, hk, hq, hi, _, _, hpre⟩
  ·rw [adG, insL_none hany]
   rcases Nat.lt_or_ge l.length cap with hlt | hge
   ·have := ins_mid_g b off cap l x w sl h70 hlc hcm l.length (Nat.le_refl _) hlt (by rw [if_pos rfl]; exact hi)
    simpa using this
   ·obtain rfl : cap = l.length := by omega
    exact ins_end_g b off l x w sl h70 hcm hi
  ·rw [adG, insL_some hk hq hpre]
   have hkl := (List.getElem?_eq_some_iff.1 hk).1
   exact ins_mid_g b off cap l x w sl h70 hlc hcm k (by omega) (by omega) (by rw [if_neg (by omega)]; exact hi)
end Go.Proofs.YtmopiifamopidaaGreat
end
