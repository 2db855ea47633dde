/- without and unasked. -/
import Derived.Test.YtdmadnoijhmbcaaDel12
namespace Go.Proofs.Ytdmadnoijhmbcaa
open Go.RowKit

set_option linter.unusedSimpArgs false in
set_option linter.unusedVariables false in
set_option maxRecDepth 100000 in
set_option maxHeartbeats 2000000 in
theorem wth_dru (v : Value) (l : List Us) (bn : Nat) (zs zo : Int) (w : World) (sl : SlU w v l) (h100 : l.length ≤ 100) (hb : bn < w.heap.size) (c0 : w.cell? ⟨bn, 0, none⟩ = some (.int .i64 zs)) (c1 : w.cell? ⟨bn, 1, none⟩ = some (.int .i64 zo)) : Calls Try.prog 53 #[v, .func (.func 31) #[] #[], .func (.func 54) #[] #[.pointer (some ⟨bn, 0, none⟩)]] w fun e w' => RetU w (l.filter (fun d => !(d.s == zs && d.o == zo))) e w' := by
  have SL := Lib.hid (sl.below (show Below w.heap.size w ((w.alloc (.cells #[.func (.func 31) #[] #[]] 68)).alloc (.cells #[.func (.func 54) #[] #[.pointer (some ⟨bn, 0, none⟩)]] 98)) from ((Below.refl _ _).alloc (Nat.le_refl _) _).alloc (by simp) _))
  have C0 := Lib.hid c0
  have C1 := Lib.hid c1
  have oA := Lib.hid (Own.alloc (own_at (w := w) [.func (.func 31) #[] #[]] 68 rfl) (.cells #[.func (.func 54) #[] #[.pointer (some ⟨bn, 0, none⟩)]] 98))
  have oO := Lib.hid (own_at (w := w.alloc (.cells #[.func (.func 31) #[] #[]] 68)) (n := w.heap.size + 1) [.func (.func 54) #[] #[.pointer (some ⟨bn, 0, none⟩)]] 98 (by simp))
  have BW := Lib.hid (show Below w.heap.size w ((w.alloc (.cells #[.func (.func 31) #[] #[]] 68)).alloc (.cells #[.func (.func 54) #[] #[.pointer (some ⟨bn, 0, none⟩)]] 98)) from ((Below.refl _ _).alloc (Nat.le_refl _) _).alloc (by simp) _)
  obtain ⟨B, hB⟩ : ∃ B, ((w.alloc (.cells #[.func (.func 31) #[] #[]] 68)).alloc (.cells #[.func (.func 54) #[] #[.pointer (some ⟨bn, 0, none⟩)]] 98)).heap.size = B := ⟨_, rfl⟩
  have hB2 : w.heap.size + 2 = B := by rw [← hB]; simp
  have HBB := Lib.hid hB
  clear sl c0 c1 hB
  go_enter Try.func53, Try.ntmps53
  go_wp2_with fail
  refine (clone_u _ l _ SL.out h100).mono ?_
  rintro e w1 ⟨v1, rfl, hown, hbl⟩
  have oA1 := Lib.hid (oA.out.below hbl)
  have oO1 := Lib.hid (oO.out.below hbl)
  have B1 := Lib.hid (belowTo BW.out hbl BW.out.size)
  rw [HBB.out] at hown
  have hs1 : B ≤ w1.heap.size := by have := hbl.size; rw [HBB.out] at this; exact this
  have HOWN := Lib.hid hown
  have S1 := Lib.hid (slt_of_own (L := usL) hown)
  clear hown hbl SL oA oO
  have HQ := Lib.hid (show ∀ (d : Us) (wx : World), Below B w1 wx → Calls Try.prog 69 #[.agg #[.int .i64 d.s, .int .i64 d.o, .int .i64 d.p, .int .i64 d.m], .pointer (some ⟨(w.heap.size + 1), 0, none⟩), .pointer (some ⟨w.heap.size, 0, none⟩)] wx fun e w' => e = .returned (.bool ((fun d : Us => (d.s == zs && d.o == zo)) d)) ∧ Below wx.heap.size wx w' from fun d wx hbx => wdru_any (w.heap.size + 1) w.heap.size bn zs zo d wx (Nat.lt_of_lt_of_le (by omega) hbx.size) (Nat.lt_of_lt_of_le (by omega) hbx.size) (Nat.lt_of_lt_of_le (Nat.lt_of_lt_of_le hb B1.out.size) hbx.size) ((hbx.cell (p := ⟨bn, 0, none⟩) (by simp; omega)).trans ((B1.out.cell (p := ⟨bn, 0, none⟩) hb).trans C0.out)) ((hbx.cell (p := ⟨bn, 1, none⟩) (by simp; omega)).trans ((B1.out.cell (p := ⟨bn, 1, none⟩) hb).trans C1.out)) ((hbx.cell (p := ⟨w.heap.size + 1, 0, none⟩) (by simp; omega)).trans (oO1.out.cell (i := 0) rfl)) ((hbx.cell (p := ⟨w.heap.size, 0, none⟩) (by simp; omega)).trans (oA1.out.cell (i := 0) rfl)))
  rcases idx_cases (fun d : Us => (d.s == zs && d.o == zo)) l with ⟨hi, hany⟩ | ⟨k, d0, hk, hq, hi, _, _, hpre⟩
  · have HI := Lib.hid hi
    have HA := Lib.hid hany
    clear hi hany
    go_wp2_with (first | (go_at_call 68; refine (del_none_u v1 l (w.heap.size + 1) w.heap.size (fun d : Us => (d.s == zs && d.o == zo)) B _ S1.out hs1 HQ.out HI.out).mono ?_; rintro e w3 ⟨rfl, hb2⟩; have B3 := Lib.hid (belowTo B1.out hb2 B1.out.size); have S3 := Lib.hid (S1.out.below hb2); clear hb2) | fail)
    go_ret
    exact ⟨_, rfl, by rw [filt_none (q := (fun d : Us => (d.s == zs && d.o == zo))) HA.out]; exact S3.out, B3.out⟩
  · have hlen : 0 < l.length := by have := (List.getElem?_eq_some_iff.1 hk).1; omega
    obtain ⟨g, cap2, e2, hgB, hlc2, hcm2⟩ : ∃ g cap2, v1 = .slice (some ⟨g, 0, none⟩) l.length cap2 ∧ B ≤ g ∧ l.length ≤ cap2 ∧ cap2 ≤ 9223372036854775807 := by
      obtain ⟨_, ⟨_, e⟩ | ⟨g, cap2, _, e, hbg, _, h1, h2, _, _⟩⟩ := HOWN.out
      · omega
      · exact ⟨g, cap2, e, hbg, h1, by unfold maxLen at h2; exact h2⟩
    subst e2
    have HK := Lib.hid (And.intro hk (And.intro hi (And.intro hq hpre)))
    clear hk hi hq hpre
    go_wp2_with (first | (go_at_call 68; refine (del_some_u g cap2 l (w.heap.size + 1) w.heap.size (fun d : Us => (d.s == zs && d.o == zo)) B k d0 _ HOWN.out hs1 hgB HQ.out hlc2 hcm2 (by omega) HK.out.1 HK.out.2.1 HK.out.2.2.1 HK.out.2.2.2).mono ?_; rintro e w3 ⟨v3, rfl, hs, hb2⟩; have B3 := Lib.hid (B1.out.trans (hb2.mono (by omega))); have S3 := Lib.hid hs; clear hb2 hs) | fail)
    go_ret
    exact ⟨_, rfl, S3.out, B3.out⟩

set_option linter.unusedSimpArgs false in
set_option linter.unusedVariables false in
set_option maxRecDepth 100000 in
set_option maxHeartbeats 2000000 in
theorem wth_drg (v : Value) (l : List Gr) (bn : Nat) (zs zo : Int) (w : World) (sl : SlG w v l) (h100 : l.length ≤ 100) (hb : bn < w.heap.size) (c0 : w.cell? ⟨bn, 0, none⟩ = some (.int .i64 zs)) (c1 : w.cell? ⟨bn, 1, none⟩ = some (.int .i64 zo)) : Calls Try.prog 55 #[v, .func (.func 38) #[] #[], .func (.func 56) #[] #[.pointer (some ⟨bn, 0, none⟩)]] w fun e w' => RetG w (l.filter (fun d => !(d.s == zs && d.o == zo))) e w' := by
  have SL := Lib.hid (sl.below (show Below w.heap.size w ((w.alloc (.cells #[.func (.func 38) #[] #[]] 76)).alloc (.cells #[.func (.func 56) #[] #[.pointer (some ⟨bn, 0, none⟩)]] 100)) from ((Below.refl _ _).alloc (Nat.le_refl _) _).alloc (by simp) _))
  have C0 := Lib.hid c0
  have C1 := Lib.hid c1
  have oA := Lib.hid (Own.alloc (own_at (w := w) [.func (.func 38) #[] #[]] 76 rfl) (.cells #[.func (.func 56) #[] #[.pointer (some ⟨bn, 0, none⟩)]] 100))
  have oO := Lib.hid (own_at (w := w.alloc (.cells #[.func (.func 38) #[] #[]] 76)) (n := w.heap.size + 1) [.func (.func 56) #[] #[.pointer (some ⟨bn, 0, none⟩)]] 100 (by simp))
  have BW := Lib.hid (show Below w.heap.size w ((w.alloc (.cells #[.func (.func 38) #[] #[]] 76)).alloc (.cells #[.func (.func 56) #[] #[.pointer (some ⟨bn, 0, none⟩)]] 100)) from ((Below.refl _ _).alloc (Nat.le_refl _) _).alloc (by simp) _)
  obtain ⟨B, hB⟩ : ∃ B, ((w.alloc (.cells #[.func (.func 38) #[] #[]] 76)).alloc (.cells #[.func (.func 56) #[] #[.pointer (some ⟨bn, 0, none⟩)]] 100)).heap.size = B := ⟨_, rfl⟩
  have hB2 : w.heap.size + 2 = B := by rw [← hB]; simp
  have HBB := Lib.hid hB
  clear sl c0 c1 hB
  go_enter Try.func55, Try.ntmps55
  go_wp2_with fail
  refine (clone_g _ l _ SL.out h100).mono ?_
  rintro e w1 ⟨v1, rfl, hown, hbl⟩
  have oA1 := Lib.hid (oA.out.below hbl)
  have oO1 := Lib.hid (oO.out.below hbl)
  have B1 := Lib.hid (belowTo BW.out hbl BW.out.size)
  rw [HBB.out] at hown
  have hs1 : B ≤ w1.heap.size := by have := hbl.size; rw [HBB.out] at this; exact this
  have HOWN := Lib.hid hown
  have S1 := Lib.hid (slt_of_own (L := grL) hown)
  clear hown hbl SL oA oO
  have HQ := Lib.hid (show ∀ (d : Gr) (wx : World), Below B w1 wx → Calls Try.prog 71 #[.agg #[.int .i64 d.s, .int .i64 d.o, .int .i64 d.p, .int .i64 d.m, .int .i64 d.u], .pointer (some ⟨(w.heap.size + 1), 0, none⟩), .pointer (some ⟨w.heap.size, 0, none⟩)] wx fun e w' => e = .returned (.bool ((fun d : Gr => (d.s == zs && d.o == zo)) d)) ∧ Below wx.heap.size wx w' from fun d wx hbx => wdrg_any (w.heap.size + 1) w.heap.size bn zs zo d wx (Nat.lt_of_lt_of_le (by omega) hbx.size) (Nat.lt_of_lt_of_le (by omega) hbx.size) (Nat.lt_of_lt_of_le (Nat.lt_of_lt_of_le hb B1.out.size) hbx.size) ((hbx.cell (p := ⟨bn, 0, none⟩) (by simp; omega)).trans ((B1.out.cell (p := ⟨bn, 0, none⟩) hb).trans C0.out)) ((hbx.cell (p := ⟨bn, 1, none⟩) (by simp; omega)).trans ((B1.out.cell (p := ⟨bn, 1, none⟩) hb).trans C1.out)) ((hbx.cell (p := ⟨w.heap.size + 1, 0, none⟩) (by simp; omega)).trans (oO1.out.cell (i := 0) rfl)) ((hbx.cell (p := ⟨w.heap.size, 0, none⟩) (by simp; omega)).trans (oA1.out.cell (i := 0) rfl)))
  rcases idx_cases (fun d : Gr => (d.s == zs && d.o == zo)) l with ⟨hi, hany⟩ | ⟨k, d0, hk, hq, hi, _, _, hpre⟩
  · have HI := Lib.hid hi
    have HA := Lib.hid hany
    clear hi hany
    go_wp2_with (first | (go_at_call 70; refine (del_none_g v1 l (w.heap.size + 1) w.heap.size (fun d : Gr => (d.s == zs && d.o == zo)) B _ S1.out hs1 HQ.out HI.out).mono ?_; rintro e w3 ⟨rfl, hb2⟩; have B3 := Lib.hid (belowTo B1.out hb2 B1.out.size); have S3 := Lib.hid (S1.out.below hb2); clear hb2) | fail)
    go_ret
    exact ⟨_, rfl, by rw [filt_none (q := (fun d : Gr => (d.s == zs && d.o == zo))) HA.out]; exact S3.out, B3.out⟩
  · have hlen : 0 < l.length := by have := (List.getElem?_eq_some_iff.1 hk).1; omega
    obtain ⟨g, cap2, e2, hgB, hlc2, hcm2⟩ : ∃ g cap2, v1 = .slice (some ⟨g, 0, none⟩) l.length cap2 ∧ B ≤ g ∧ l.length ≤ cap2 ∧ cap2 ≤ 9223372036854775807 := by
      obtain ⟨_, ⟨_, e⟩ | ⟨g, cap2, _, e, hbg, _, h1, h2, _, _⟩⟩ := HOWN.out
      · omega
      · exact ⟨g, cap2, e, hbg, h1, by unfold maxLen at h2; exact h2⟩
    subst e2
    have HK := Lib.hid (And.intro hk (And.intro hi (And.intro hq hpre)))
    clear hk hi hq hpre
    go_wp2_with (first | (go_at_call 70; refine (del_some_g g cap2 l (w.heap.size + 1) w.heap.size (fun d : Gr => (d.s == zs && d.o == zo)) B k d0 _ HOWN.out hs1 hgB HQ.out hlc2 hcm2 (by omega) HK.out.1 HK.out.2.1 HK.out.2.2.1 HK.out.2.2.2).mono ?_; rintro e w3 ⟨v3, rfl, hs, hb2⟩; have B3 := Lib.hid (B1.out.trans (hb2.mono (by omega))); have S3 := Lib.hid hs; clear hb2 hs) | fail)
    go_ret
    exact ⟨_, rfl, S3.out, B3.out⟩

set_option linter.unusedSimpArgs false in
set_option linter.unusedVariables false in
set_option maxRecDepth 100000 in
set_option maxHeartbeats 2000000 in
theorem wth_dra (v : Value) (l : List Ak) (bn : Nat) (zs zo : Int) (w : World) (sl : SlA w v l) (h100 : l.length ≤ 100) (hb : bn < w.heap.size) (c0 : w.cell? ⟨bn, 0, none⟩ = some (.int .i64 zs)) (c1 : w.cell? ⟨bn, 1, none⟩ = some (.int .i64 zo)) : Calls Try.prog 57 #[v, .func (.func 46) #[] #[], .func (.func 58) #[] #[.pointer (some ⟨bn, 0, none⟩)]] w fun e w' => RetA w (l.filter (fun d => !(d.s == zs && d.o == zo))) e w' := by
  have SL := Lib.hid (sl.below (show Below w.heap.size w ((w.alloc (.cells #[.func (.func 46) #[] #[]] 89)).alloc (.cells #[.func (.func 58) #[] #[.pointer (some ⟨bn, 0, none⟩)]] 102)) from ((Below.refl _ _).alloc (Nat.le_refl _) _).alloc (by simp) _))
  have C0 := Lib.hid c0
  have C1 := Lib.hid c1
  have oA := Lib.hid (Own.alloc (own_at (w := w) [.func (.func 46) #[] #[]] 89 rfl) (.cells #[.func (.func 58) #[] #[.pointer (some ⟨bn, 0, none⟩)]] 102))
  have oO := Lib.hid (own_at (w := w.alloc (.cells #[.func (.func 46) #[] #[]] 89)) (n := w.heap.size + 1) [.func (.func 58) #[] #[.pointer (some ⟨bn, 0, none⟩)]] 102 (by simp))
  have BW := Lib.hid (show Below w.heap.size w ((w.alloc (.cells #[.func (.func 46) #[] #[]] 89)).alloc (.cells #[.func (.func 58) #[] #[.pointer (some ⟨bn, 0, none⟩)]] 102)) from ((Below.refl _ _).alloc (Nat.le_refl _) _).alloc (by simp) _)
  obtain ⟨B, hB⟩ : ∃ B, ((w.alloc (.cells #[.func (.func 46) #[] #[]] 89)).alloc (.cells #[.func (.func 58) #[] #[.pointer (some ⟨bn, 0, none⟩)]] 102)).heap.size = B := ⟨_, rfl⟩
  have hB2 : w.heap.size + 2 = B := by rw [← hB]; simp
  have HBB := Lib.hid hB
  clear sl c0 c1 hB
  go_enter Try.func57, Try.ntmps57
  go_wp2_with fail
  refine (clone_a _ l _ SL.out h100).mono ?_
  rintro e w1 ⟨v1, rfl, hown, hbl⟩
  have oA1 := Lib.hid (oA.out.below hbl)
  have oO1 := Lib.hid (oO.out.below hbl)
  have B1 := Lib.hid (belowTo BW.out hbl BW.out.size)
  rw [HBB.out] at hown
  have hs1 : B ≤ w1.heap.size := by have := hbl.size; rw [HBB.out] at this; exact this
  have HOWN := Lib.hid hown
  have S1 := Lib.hid (slt_of_own (L := akL) hown)
  clear hown hbl SL oA oO
  have HQ := Lib.hid (show ∀ (d : Ak) (wx : World), Below B w1 wx → Calls Try.prog 73 #[.agg #[.int .i64 d.s, .int .i64 d.o, .int .i64 d.p], .pointer (some ⟨(w.heap.size + 1), 0, none⟩), .pointer (some ⟨w.heap.size, 0, none⟩)] wx fun e w' => e = .returned (.bool ((fun d : Ak => (d.s == zs && d.o == zo)) d)) ∧ Below wx.heap.size wx w' from fun d wx hbx => wdra_any (w.heap.size + 1) w.heap.size bn zs zo d wx (Nat.lt_of_lt_of_le (by omega) hbx.size) (Nat.lt_of_lt_of_le (by omega) hbx.size) (Nat.lt_of_lt_of_le (Nat.lt_of_lt_of_le hb B1.out.size) hbx.size) ((hbx.cell (p := ⟨bn, 0, none⟩) (by simp; omega)).trans ((B1.out.cell (p := ⟨bn, 0, none⟩) hb).trans C0.out)) ((hbx.cell (p := ⟨bn, 1, none⟩) (by simp; omega)).trans ((B1.out.cell (p := ⟨bn, 1, none⟩) hb).trans C1.out)) ((hbx.cell (p := ⟨w.heap.size + 1, 0, none⟩) (by simp; omega)).trans (oO1.out.cell (i := 0) rfl)) ((hbx.cell (p := ⟨w.heap.size, 0, none⟩) (by simp; omega)).trans (oA1.out.cell (i := 0) rfl)))
  rcases idx_cases (fun d : Ak => (d.s == zs && d.o == zo)) l with ⟨hi, hany⟩ | ⟨k, d0, hk, hq, hi, _, _, hpre⟩
  · have HI := Lib.hid hi
    have HA := Lib.hid hany
    clear hi hany
    go_wp2_with (first | (go_at_call 72; refine (del_none_a v1 l (w.heap.size + 1) w.heap.size (fun d : Ak => (d.s == zs && d.o == zo)) B _ S1.out hs1 HQ.out HI.out).mono ?_; rintro e w3 ⟨rfl, hb2⟩; have B3 := Lib.hid (belowTo B1.out hb2 B1.out.size); have S3 := Lib.hid (S1.out.below hb2); clear hb2) | fail)
    go_ret
    exact ⟨_, rfl, by rw [filt_none (q := (fun d : Ak => (d.s == zs && d.o == zo))) HA.out]; exact S3.out, B3.out⟩
  · have hlen : 0 < l.length := by have := (List.getElem?_eq_some_iff.1 hk).1; omega
    obtain ⟨g, cap2, e2, hgB, hlc2, hcm2⟩ : ∃ g cap2, v1 = .slice (some ⟨g, 0, none⟩) l.length cap2 ∧ B ≤ g ∧ l.length ≤ cap2 ∧ cap2 ≤ 9223372036854775807 := by
      obtain ⟨_, ⟨_, e⟩ | ⟨g, cap2, _, e, hbg, _, h1, h2, _, _⟩⟩ := HOWN.out
      · omega
      · exact ⟨g, cap2, e, hbg, h1, by unfold maxLen at h2; exact h2⟩
    subst e2
    have HK := Lib.hid (And.intro hk (And.intro hi (And.intro hq hpre)))
    clear hk hi hq hpre
    go_wp2_with (first | (go_at_call 72; refine (del_some_a g cap2 l (w.heap.size + 1) w.heap.size (fun d : Ak => (d.s == zs && d.o == zo)) B k d0 _ HOWN.out hs1 hgB HQ.out hlc2 hcm2 (by omega) HK.out.1 HK.out.2.1 HK.out.2.2.1 HK.out.2.2.2).mono ?_; rintro e w3 ⟨v3, rfl, hs, hb2⟩; have B3 := Lib.hid (B1.out.trans (hb2.mono (by omega))); have S3 := Lib.hid hs; clear hb2 hs) | fail)
    go_ret
    exact ⟨_, rfl, S3.out, B3.out⟩

set_option linter.unusedSimpArgs false in
set_option linter.unusedVariables false in
set_option maxRecDepth 100000 in
set_option maxHeartbeats 2000000 in
theorem wth_exg (v : Value) (l : List Gr) (bn : Nat) (zs : Int) (w : World) (sl : SlG w v l) (h100 : l.length ≤ 100) (hb : bn < w.heap.size) (c0 : w.cell? ⟨bn, 0, none⟩ = some (.int .i64 zs)) : Calls Try.prog 55 #[v, .func (.func 38) #[] #[], .func (.func 59) #[] #[.pointer (some ⟨bn, 0, none⟩)]] w fun e w' => RetG w (l.filter (fun d => !(decide (d.u < zs)))) e w' := by
  have SL := Lib.hid (sl.below (show Below w.heap.size w ((w.alloc (.cells #[.func (.func 38) #[] #[]] 76)).alloc (.cells #[.func (.func 59) #[] #[.pointer (some ⟨bn, 0, none⟩)]] 100)) from ((Below.refl _ _).alloc (Nat.le_refl _) _).alloc (by simp) _))
  have C0 := Lib.hid c0
  have oA := Lib.hid (Own.alloc (own_at (w := w) [.func (.func 38) #[] #[]] 76 rfl) (.cells #[.func (.func 59) #[] #[.pointer (some ⟨bn, 0, none⟩)]] 100))
  have oO := Lib.hid (own_at (w := w.alloc (.cells #[.func (.func 38) #[] #[]] 76)) (n := w.heap.size + 1) [.func (.func 59) #[] #[.pointer (some ⟨bn, 0, none⟩)]] 100 (by simp))
  have BW := Lib.hid (show Below w.heap.size w ((w.alloc (.cells #[.func (.func 38) #[] #[]] 76)).alloc (.cells #[.func (.func 59) #[] #[.pointer (some ⟨bn, 0, none⟩)]] 100)) from ((Below.refl _ _).alloc (Nat.le_refl _) _).alloc (by simp) _)
  obtain ⟨B, hB⟩ : ∃ B, ((w.alloc (.cells #[.func (.func 38) #[] #[]] 76)).alloc (.cells #[.func (.func 59) #[] #[.pointer (some ⟨bn, 0, none⟩)]] 100)).heap.size = B := ⟨_, rfl⟩
  have hB2 : w.heap.size + 2 = B := by rw [← hB]; simp
  have HBB := Lib.hid hB
  clear sl c0  hB
  go_enter Try.func55, Try.ntmps55
  go_wp2_with fail
  refine (clone_g _ l _ SL.out h100).mono ?_
  rintro e w1 ⟨v1, rfl, hown, hbl⟩
  have oA1 := Lib.hid (oA.out.below hbl)
  have oO1 := Lib.hid (oO.out.below hbl)
  have B1 := Lib.hid (belowTo BW.out hbl BW.out.size)
  rw [HBB.out] at hown
  have hs1 : B ≤ w1.heap.size := by have := hbl.size; rw [HBB.out] at this; exact this
  have HOWN := Lib.hid hown
  have S1 := Lib.hid (slt_of_own (L := grL) hown)
  clear hown hbl SL oA oO
  have HQ := Lib.hid (show ∀ (d : Gr) (wx : World), Below B w1 wx → Calls Try.prog 71 #[.agg #[.int .i64 d.s, .int .i64 d.o, .int .i64 d.p, .int .i64 d.m, .int .i64 d.u], .pointer (some ⟨(w.heap.size + 1), 0, none⟩), .pointer (some ⟨w.heap.size, 0, none⟩)] wx fun e w' => e = .returned (.bool ((fun d : Gr => (decide (d.u < zs))) d)) ∧ Below wx.heap.size wx w' from fun d wx hbx => wexg_any (w.heap.size + 1) w.heap.size bn zs d wx (Nat.lt_of_lt_of_le (by omega) hbx.size) (Nat.lt_of_lt_of_le (by omega) hbx.size) (Nat.lt_of_lt_of_le (Nat.lt_of_lt_of_le hb B1.out.size) hbx.size) ((hbx.cell (p := ⟨bn, 0, none⟩) (by simp; omega)).trans ((B1.out.cell (p := ⟨bn, 0, none⟩) hb).trans C0.out)) ((hbx.cell (p := ⟨w.heap.size + 1, 0, none⟩) (by simp; omega)).trans (oO1.out.cell (i := 0) rfl)) ((hbx.cell (p := ⟨w.heap.size, 0, none⟩) (by simp; omega)).trans (oA1.out.cell (i := 0) rfl)))
  rcases idx_cases (fun d : Gr => (decide (d.u < zs))) l with ⟨hi, hany⟩ | ⟨k, d0, hk, hq, hi, _, _, hpre⟩
  · have HI := Lib.hid hi
    have HA := Lib.hid hany
    clear hi hany
    go_wp2_with (first | (go_at_call 70; refine (del_none_g v1 l (w.heap.size + 1) w.heap.size (fun d : Gr => (decide (d.u < zs))) B _ S1.out hs1 HQ.out HI.out).mono ?_; rintro e w3 ⟨rfl, hb2⟩; have B3 := Lib.hid (belowTo B1.out hb2 B1.out.size); have S3 := Lib.hid (S1.out.below hb2); clear hb2) | fail)
    go_ret
    exact ⟨_, rfl, by rw [filt_none (q := (fun d : Gr => (decide (d.u < zs)))) HA.out]; exact S3.out, B3.out⟩
  · have hlen : 0 < l.length := by have := (List.getElem?_eq_some_iff.1 hk).1; omega
    obtain ⟨g, cap2, e2, hgB, hlc2, hcm2⟩ : ∃ g cap2, v1 = .slice (some ⟨g, 0, none⟩) l.length cap2 ∧ B ≤ g ∧ l.length ≤ cap2 ∧ cap2 ≤ 9223372036854775807 := by
      obtain ⟨_, ⟨_, e⟩ | ⟨g, cap2, _, e, hbg, _, h1, h2, _, _⟩⟩ := HOWN.out
      · omega
      · exact ⟨g, cap2, e, hbg, h1, by unfold maxLen at h2; exact h2⟩
    subst e2
    have HK := Lib.hid (And.intro hk (And.intro hi (And.intro hq hpre)))
    clear hk hi hq hpre
    go_wp2_with (first | (go_at_call 70; refine (del_some_g g cap2 l (w.heap.size + 1) w.heap.size (fun d : Gr => (decide (d.u < zs))) B k d0 _ HOWN.out hs1 hgB HQ.out hlc2 hcm2 (by omega) HK.out.1 HK.out.2.1 HK.out.2.2.1 HK.out.2.2.2).mono ?_; rintro e w3 ⟨v3, rfl, hs, hb2⟩; have B3 := Lib.hid (B1.out.trans (hb2.mono (by omega))); have S3 := Lib.hid hs; clear hb2 hs) | fail)
    go_ret
    exact ⟨_, rfl, S3.out, B3.out⟩

set_option linter.unusedSimpArgs false in
set_option linter.unusedVariables false in
set_option maxRecDepth 100000 in
set_option maxHeartbeats 2000000 in
theorem wth_una (v : Value) (l : List Ak) (bn : Nat) (zs : Int) (w : World) (sl : SlA w v l) (h100 : l.length ≤ 100) (hb : bn < w.heap.size) (c0 : w.cell? ⟨bn, 0, none⟩ = some (.int .i64 zs)) : Calls Try.prog 57 #[v, .func (.func 46) #[] #[], .func (.func 64) #[] #[.pointer (some ⟨bn, 0, none⟩)]] w fun e w' => RetA w (l.filter (fun d => !(d.s == zs))) e w' := by
  have SL := Lib.hid (sl.below (show Below w.heap.size w ((w.alloc (.cells #[.func (.func 46) #[] #[]] 89)).alloc (.cells #[.func (.func 64) #[] #[.pointer (some ⟨bn, 0, none⟩)]] 102)) from ((Below.refl _ _).alloc (Nat.le_refl _) _).alloc (by simp) _))
  have C0 := Lib.hid c0
  have oA := Lib.hid (Own.alloc (own_at (w := w) [.func (.func 46) #[] #[]] 89 rfl) (.cells #[.func (.func 64) #[] #[.pointer (some ⟨bn, 0, none⟩)]] 102))
  have oO := Lib.hid (own_at (w := w.alloc (.cells #[.func (.func 46) #[] #[]] 89)) (n := w.heap.size + 1) [.func (.func 64) #[] #[.pointer (some ⟨bn, 0, none⟩)]] 102 (by simp))
  have BW := Lib.hid (show Below w.heap.size w ((w.alloc (.cells #[.func (.func 46) #[] #[]] 89)).alloc (.cells #[.func (.func 64) #[] #[.pointer (some ⟨bn, 0, none⟩)]] 102)) from ((Below.refl _ _).alloc (Nat.le_refl _) _).alloc (by simp) _)
  obtain ⟨B, hB⟩ : ∃ B, ((w.alloc (.cells #[.func (.func 46) #[] #[]] 89)).alloc (.cells #[.func (.func 64) #[] #[.pointer (some ⟨bn, 0, none⟩)]] 102)).heap.size = B := ⟨_, rfl⟩
  have hB2 : w.heap.size + 2 = B := by rw [← hB]; simp
  have HBB := Lib.hid hB
  clear sl c0  hB
  go_enter Try.func57, Try.ntmps57
  go_wp2_with fail
  refine (clone_a _ l _ SL.out h100).mono ?_
  rintro e w1 ⟨v1, rfl, hown, hbl⟩
  have oA1 := Lib.hid (oA.out.below hbl)
  have oO1 := Lib.hid (oO.out.below hbl)
  have B1 := Lib.hid (belowTo BW.out hbl BW.out.size)
  rw [HBB.out] at hown
  have hs1 : B ≤ w1.heap.size := by have := hbl.size; rw [HBB.out] at this; exact this
  have HOWN := Lib.hid hown
  have S1 := Lib.hid (slt_of_own (L := akL) hown)
  clear hown hbl SL oA oO
  have HQ := Lib.hid (show ∀ (d : Ak) (wx : World), Below B w1 wx → Calls Try.prog 73 #[.agg #[.int .i64 d.s, .int .i64 d.o, .int .i64 d.p], .pointer (some ⟨(w.heap.size + 1), 0, none⟩), .pointer (some ⟨w.heap.size, 0, none⟩)] wx fun e w' => e = .returned (.bool ((fun d : Ak => (d.s == zs)) d)) ∧ Below wx.heap.size wx w' from fun d wx hbx => wuna_any (w.heap.size + 1) w.heap.size bn zs d wx (Nat.lt_of_lt_of_le (by omega) hbx.size) (Nat.lt_of_lt_of_le (by omega) hbx.size) (Nat.lt_of_lt_of_le (Nat.lt_of_lt_of_le hb B1.out.size) hbx.size) ((hbx.cell (p := ⟨bn, 0, none⟩) (by simp; omega)).trans ((B1.out.cell (p := ⟨bn, 0, none⟩) hb).trans C0.out)) ((hbx.cell (p := ⟨w.heap.size + 1, 0, none⟩) (by simp; omega)).trans (oO1.out.cell (i := 0) rfl)) ((hbx.cell (p := ⟨w.heap.size, 0, none⟩) (by simp; omega)).trans (oA1.out.cell (i := 0) rfl)))
  rcases idx_cases (fun d : Ak => (d.s == zs)) l with ⟨hi, hany⟩ | ⟨k, d0, hk, hq, hi, _, _, hpre⟩
  · have HI := Lib.hid hi
    have HA := Lib.hid hany
    clear hi hany
    go_wp2_with (first | (go_at_call 72; refine (del_none_a v1 l (w.heap.size + 1) w.heap.size (fun d : Ak => (d.s == zs)) B _ S1.out hs1 HQ.out HI.out).mono ?_; rintro e w3 ⟨rfl, hb2⟩; have B3 := Lib.hid (belowTo B1.out hb2 B1.out.size); have S3 := Lib.hid (S1.out.below hb2); clear hb2) | fail)
    go_ret
    exact ⟨_, rfl, by rw [filt_none (q := (fun d : Ak => (d.s == zs))) HA.out]; exact S3.out, B3.out⟩
  · have hlen : 0 < l.length := by have := (List.getElem?_eq_some_iff.1 hk).1; omega
    obtain ⟨g, cap2, e2, hgB, hlc2, hcm2⟩ : ∃ g cap2, v1 = .slice (some ⟨g, 0, none⟩) l.length cap2 ∧ B ≤ g ∧ l.length ≤ cap2 ∧ cap2 ≤ 9223372036854775807 := by
      obtain ⟨_, ⟨_, e⟩ | ⟨g, cap2, _, e, hbg, _, h1, h2, _, _⟩⟩ := HOWN.out
      · omega
      · exact ⟨g, cap2, e, hbg, h1, by unfold maxLen at h2; exact h2⟩
    subst e2
    have HK := Lib.hid (And.intro hk (And.intro hi (And.intro hq hpre)))
    clear hk hi hq hpre
    go_wp2_with (first | (go_at_call 72; refine (del_some_a g cap2 l (w.heap.size + 1) w.heap.size (fun d : Ak => (d.s == zs)) B k d0 _ HOWN.out hs1 hgB HQ.out hlc2 hcm2 (by omega) HK.out.1 HK.out.2.1 HK.out.2.2.1 HK.out.2.2.2).mono ?_; rintro e w3 ⟨v3, rfl, hs, hb2⟩; have B3 := Lib.hid (B1.out.trans (hb2.mono (by omega))); have S3 := Lib.hid hs; clear hb2 hs) | fail)
    go_ret
    exact ⟨_, rfl, S3.out, B3.out⟩

set_option linter.unusedSimpArgs false in
set_option linter.unusedVariables false in
set_option maxRecDepth 100000 in
set_option maxHeartbeats 2000000 in
theorem unasked_any (vu vg va : Value) (ks : List Ak) (z : Int) (w : World) (sa : SlA w va ks) (h100 : ks.length ≤ 100) : Calls Try.prog 33 #[.agg #[vu, vg, va], .int .i64 z] w fun e w' => RetA w (ks.filter (fun d => !(d.s == z))) e w' := by
  have SA := Lib.hid (sa.below (show Below w.heap.size w ((w.alloc (.cells #[vu, vg, va] 26)).alloc (.cells #[.int .i64 z] 3)) from ((Below.refl _ _).alloc (Nat.le_refl _) _).alloc (by simp) _))
  have BW := Lib.hid (show Below w.heap.size w ((w.alloc (.cells #[vu, vg, va] 26)).alloc (.cells #[.int .i64 z] 3)) from ((Below.refl _ _).alloc (Nat.le_refl _) _).alloc (by simp) _)
  have OZ := Lib.hid (own_at (w := w.alloc (.cells #[vu, vg, va] 26)) (n := w.heap.size + 1) [.int .i64 z] 3 (by simp))
  clear sa
  go_enter Try.func33, Try.ntmps33
  go_wp2_with (first | (go_at_call 57; refine (wth_una _ ks (w.heap.size + 1) z _ SA.out h100 OZ.out.lt (OZ.out.cell (i := 0) rfl)).mono ?_; rintro e w1 ⟨v1, rfl, hs, hb⟩; have S1 := Lib.hid hs; have B1 := Lib.hid (belowTo BW.out hb BW.out.size); clear hs hb) | fail)
  go_ret
  exact ⟨_, rfl, S1.out, B1.out⟩

end Go.Proofs.Ytdmadnoijhmbcaa
