/- The contract of the reference's Meet. -/
import Derived.Test.YtfclodgfifbfbaaPlain08b
import Derived.Test.YtfclodgfifbfbaaRef08b
import Derived.Test.YtfclodgfifbfbaaTup
import Derived.Deep.DeepCutAuto
namespace Go.Proofs.Ytfclodgfifbfbaa
open Go.RowKit

theorem mx_com (a b : Int) : mx b a = mx a b := by unfold mx; omega
theorem mn_com (a b : Int) : mn b a = mn a b := by unfold mn; omega

set_option maxRecDepth 100000 in
set_option maxHeartbeats 16000000 in
theorem rmeet_lt (al ah aa bl bh ba L H A E : Int) (w : World) (va : vldS al ah aa = true) (vb : vldS bl bh ba = true) (hlt : aa < ba) (kx : okA al ah aa ba = true) (hres : MC al ah aa bl bh ba L H A E) :
    Calls Try.prog 33 #[.agg #[.int .i64 al, .int .i64 ah, .int .i64 aa], .agg #[.int .i64 bl, .int .i64 bh, .int .i64 ba]] w
      fun e w' => e = .returned (.tuple #[.agg #[.int .i64 L, .int .i64 H, .int .i64 A], .int .i64 E]) ∧ Below w.heap.size w w' := by
  have VA := Lib.hid va
  have VB := Lib.hid vb
  have KX := Lib.hid kx
  have hs : (aa == ba) = false := by simp; omega
  clear va vb kx
  unfold MC at hres
  rcases hres with hres | hres | hres | hres | hres | hres
  · obtain ⟨r, q⟩ := hres
    have HQQ := Lib.hid q
    clear q
    go_enter Try.func33, Try.ntmps33
    go_wp2_with fail
    refine (rsvalid_lit _ _ _ true _ VA.out).mono ?_
    rintro e w1 ⟨rfl, hb⟩
    have oA : Own w1 w.heap.size [.int .i64 al, .int .i64 ah, .int .i64 aa] 23 := (((own_at _ _ rfl).alloc _).alloc _).below hb
    have oB : Own w1 (w.heap.size + 1) [.int .i64 bl, .int .i64 bh, .int .i64 ba] 23 := ((own_at _ _ (by simp)).alloc _).below hb
    have oR : Own w1 (w.heap.size + 2) [.int .i64 0, .int .i64 0, .int .i64 0] 23 := (own_at _ _ (by simp)).below hb
    have bel := belowTo (((belowNew w _).alloc (by simp) _).alloc (by simp; omega) _) hb (by simp; omega)
    clear hb
    obtain ⟨cA0, cA1, cA2, fA, zA⟩ := own3 oA
    obtain ⟨cB0, cB1, cB2, fB, zB⟩ := own3 oB
    obtain ⟨cR0, cR1, cR2, fR, zR⟩ := own3 oR
    go_wp2_with fail
    refine (rsvalid_lit _ _ _ true _ VB.out).mono ?_
    rintro e w2 ⟨rfl, hb⟩
    replace oA := oA.below hb
    replace oB := oB.below hb
    replace oR := oR.below hb
    replace bel := belowTo bel hb bel.size
    clear hb cA0 cA1 cA2 fA zA cB0 cB1 cB2 fB zB cR0 cR1 cR2 fR zR
    obtain ⟨cA0, cA1, cA2, fA, zA⟩ := own3 oA
    obtain ⟨cB0, cB1, cB2, fB, zB⟩ := own3 oB
    obtain ⟨cR0, cR1, cR2, fR, zR⟩ := own3 oR
    have gw3 := gr_range KX.out r
    go_wp2_with fail
    refine (rgrow_lit al ah aa ba 0 0 0 3 _ ⟨gw3.2.1, gw3.2.2.1, gw3.2.2.2, gw3.1⟩).mono ?_
    rintro e w3 ⟨rfl, hb⟩
    replace oA := oA.below hb
    replace oB := oB.below hb
    replace oR := oR.below hb
    replace bel := belowTo bel hb bel.size
    clear hb cA0 cA1 cA2 fA zA cB0 cB1 cB2 fB zB cR0 cR1 cR2 fR zR
    obtain ⟨cA0, cA1, cA2, fA, zA⟩ := own3 oA
    obtain ⟨cB0, cB1, cB2, fB, zB⟩ := own3 oB
    obtain ⟨cR0, cR1, cR2, fR, zR⟩ := own3 oR
    go_wp2
    refine bodyPost_ret (v := .tuple #[.agg #[.int .i64 0, .int .i64 0, .int .i64 0], .int .i64 3]) (by simp [results, Try.results33, go_sem, *]) rfl ⟨tup4 HQQ.out, ?_⟩
    repeat (first | (with_reducible exact bel) | (with_reducible refine belowSet ?_ _ _ _ ?_) | (with_reducible refine Below.alloc ?_ ?_ _))
    all_goals (first | omega | (have := bel.size; simp; omega) | simp)
  · obtain ⟨r, hh, c, q⟩ := hres
    obtain ⟨GL, hGL⟩ : ∃ g, g = al - gm (ba - aa) := ⟨_, rfl⟩
    obtain ⟨GH, hGH⟩ : ∃ g, g = ah + gm (ba - aa) := ⟨_, rfl⟩
    rw [← hGL, ← hGH] at c
    obtain ⟨P, hP⟩ : ∃ p, p = mx GL bl := ⟨_, rfl⟩
    obtain ⟨Q, hQ⟩ : ∃ p, p = mn GH bh := ⟨_, rfl⟩
    rw [← hP, ← hQ] at c
    have HP : Hid ((if GL < bl then bl else GL) = P) := hP.symm
    have HQ : Hid ((if bh < GH then bh else GH) = Q) := hQ.symm
    clear hP hQ
    have HGL := Lib.hid hGL
    have HGH := Lib.hid hGH
    clear hGL hGH
    have HQQ := Lib.hid q
    clear q
    go_enter Try.func33, Try.ntmps33
    go_wp2_with fail
    refine (rsvalid_lit _ _ _ true _ VA.out).mono ?_
    rintro e w1 ⟨rfl, hb⟩
    have oA : Own w1 w.heap.size [.int .i64 al, .int .i64 ah, .int .i64 aa] 23 := (((own_at _ _ rfl).alloc _).alloc _).below hb
    have oB : Own w1 (w.heap.size + 1) [.int .i64 bl, .int .i64 bh, .int .i64 ba] 23 := ((own_at _ _ (by simp)).alloc _).below hb
    have oR : Own w1 (w.heap.size + 2) [.int .i64 0, .int .i64 0, .int .i64 0] 23 := (own_at _ _ (by simp)).below hb
    have bel := belowTo (((belowNew w _).alloc (by simp) _).alloc (by simp; omega) _) hb (by simp; omega)
    clear hb
    obtain ⟨cA0, cA1, cA2, fA, zA⟩ := own3 oA
    obtain ⟨cB0, cB1, cB2, fB, zB⟩ := own3 oB
    obtain ⟨cR0, cR1, cR2, fR, zR⟩ := own3 oR
    go_wp2_with fail
    refine (rsvalid_lit _ _ _ true _ VB.out).mono ?_
    rintro e w2 ⟨rfl, hb⟩
    replace oA := oA.below hb
    replace oB := oB.below hb
    replace oR := oR.below hb
    replace bel := belowTo bel hb bel.size
    clear hb cA0 cA1 cA2 fA zA cB0 cB1 cB2 fB zB cR0 cR1 cR2 fR zR
    obtain ⟨cA0, cA1, cA2, fA, zA⟩ := own3 oA
    obtain ⟨cB0, cB1, cB2, fB, zB⟩ := own3 oB
    obtain ⟨cR0, cR1, cR2, fR, zR⟩ := own3 oR
    have gw3 := gr_ok KX.out r
    rw [← HGL.out, ← HGH.out] at gw3
    go_wp2_with fail
    refine (rgrow_lit al ah aa ba GL GH ba 0 _ ⟨gw3.2.1, gw3.2.2.1, gw3.2.2.2, gw3.1⟩).mono ?_
    rintro e w3 ⟨rfl, hb⟩
    replace oA := oA.below hb
    replace oB := oB.below hb
    replace oR := oR.below hb
    replace bel := belowTo bel hb bel.size
    clear hb cA0 cA1 cA2 fA zA cB0 cB1 cB2 fB zB cR0 cR1 cR2 fR zR
    obtain ⟨cA0, cA1, cA2, fA, zA⟩ := own3 oA
    obtain ⟨cB0, cB1, cB2, fB, zB⟩ := own3 oB
    obtain ⟨cR0, cR1, cR2, fR, zR⟩ := own3 oR
    go_upto_if 79 with (fail)
    rw [HP.out, HQ.out]
    go_wp2
    refine bodyPost_ret (v := .tuple #[.agg #[.int .i64 0, .int .i64 0, .int .i64 0], .int .i64 16]) (by simp [results, Try.results33, go_sem, *]) rfl ⟨tup4 HQQ.out, ?_⟩
    repeat (first | (with_reducible exact bel) | (with_reducible refine belowSet ?_ _ _ _ ?_) | (with_reducible refine Below.alloc ?_ ?_ _))
    all_goals (first | omega | (have := bel.size; simp; omega) | simp)
  · obtain ⟨r, hh, c, q⟩ := hres
    obtain ⟨GL, hGL⟩ : ∃ g, g = al - gm (ba - aa) := ⟨_, rfl⟩
    obtain ⟨GH, hGH⟩ : ∃ g, g = ah + gm (ba - aa) := ⟨_, rfl⟩
    rw [← hGL, ← hGH] at c q
    obtain ⟨P, hP⟩ : ∃ p, p = mx GL bl := ⟨_, rfl⟩
    obtain ⟨Q, hQ⟩ : ∃ p, p = mn GH bh := ⟨_, rfl⟩
    rw [← hP, ← hQ] at c q
    have HP : Hid ((if GL < bl then bl else GL) = P) := hP.symm
    have HQ : Hid ((if bh < GH then bh else GH) = Q) := hQ.symm
    clear hP hQ
    have HGL := Lib.hid hGL
    have HGH := Lib.hid hGH
    clear hGL hGH
    have HQQ := Lib.hid q
    clear q
    go_enter Try.func33, Try.ntmps33
    go_wp2_with fail
    refine (rsvalid_lit _ _ _ true _ VA.out).mono ?_
    rintro e w1 ⟨rfl, hb⟩
    have oA : Own w1 w.heap.size [.int .i64 al, .int .i64 ah, .int .i64 aa] 23 := (((own_at _ _ rfl).alloc _).alloc _).below hb
    have oB : Own w1 (w.heap.size + 1) [.int .i64 bl, .int .i64 bh, .int .i64 ba] 23 := ((own_at _ _ (by simp)).alloc _).below hb
    have oR : Own w1 (w.heap.size + 2) [.int .i64 0, .int .i64 0, .int .i64 0] 23 := (own_at _ _ (by simp)).below hb
    have bel := belowTo (((belowNew w _).alloc (by simp) _).alloc (by simp; omega) _) hb (by simp; omega)
    clear hb
    obtain ⟨cA0, cA1, cA2, fA, zA⟩ := own3 oA
    obtain ⟨cB0, cB1, cB2, fB, zB⟩ := own3 oB
    obtain ⟨cR0, cR1, cR2, fR, zR⟩ := own3 oR
    go_wp2_with fail
    refine (rsvalid_lit _ _ _ true _ VB.out).mono ?_
    rintro e w2 ⟨rfl, hb⟩
    replace oA := oA.below hb
    replace oB := oB.below hb
    replace oR := oR.below hb
    replace bel := belowTo bel hb bel.size
    clear hb cA0 cA1 cA2 fA zA cB0 cB1 cB2 fB zB cR0 cR1 cR2 fR zR
    obtain ⟨cA0, cA1, cA2, fA, zA⟩ := own3 oA
    obtain ⟨cB0, cB1, cB2, fB, zB⟩ := own3 oB
    obtain ⟨cR0, cR1, cR2, fR, zR⟩ := own3 oR
    have gw3 := gr_ok KX.out r
    rw [← HGL.out, ← HGH.out] at gw3
    go_wp2_with fail
    refine (rgrow_lit al ah aa ba GL GH ba 0 _ ⟨gw3.2.1, gw3.2.2.1, gw3.2.2.2, gw3.1⟩).mono ?_
    rintro e w3 ⟨rfl, hb⟩
    replace oA := oA.below hb
    replace oB := oB.below hb
    replace oR := oR.below hb
    replace bel := belowTo bel hb bel.size
    clear hb cA0 cA1 cA2 fA zA cB0 cB1 cB2 fB zB cR0 cR1 cR2 fR zR
    obtain ⟨cA0, cA1, cA2, fA, zA⟩ := own3 oA
    obtain ⟨cB0, cB1, cB2, fB, zB⟩ := own3 oB
    obtain ⟨cR0, cR1, cR2, fR, zR⟩ := own3 oR
    go_upto_if 79 with (fail)
    rw [HP.out, HQ.out]
    go_wp2
    refine bodyPost_ret (v := .tuple #[.agg #[.int .i64 P, .int .i64 Q, .int .i64 ba], .int .i64 0]) (by simp [results, Try.results33, go_sem, *]) rfl ⟨tup4 HQQ.out, ?_⟩
    repeat (first | (with_reducible exact bel) | (with_reducible refine belowSet ?_ _ _ _ ?_) | (with_reducible refine Below.alloc ?_ ?_ _))
    all_goals (first | omega | (have := bel.size; simp; omega) | simp)
  · obtain ⟨r, hh, _⟩ := hres
    exfalso
    omega
  · obtain ⟨r, hh, _⟩ := hres
    exfalso
    omega
  · obtain ⟨r, hh, _⟩ := hres
    exfalso
    omega

set_option maxRecDepth 100000 in
set_option maxHeartbeats 16000000 in
theorem rmeet_gt (al ah aa bl bh ba L H A E : Int) (w : World) (va : vldS al ah aa = true) (vb : vldS bl bh ba = true) (hlt : ba < aa) (kx : okA bl bh ba aa = true) (hres : MC bl bh ba al ah aa L H A E) :
    Calls Try.prog 33 #[.agg #[.int .i64 al, .int .i64 ah, .int .i64 aa], .agg #[.int .i64 bl, .int .i64 bh, .int .i64 ba]] w
      fun e w' => e = .returned (.tuple #[.agg #[.int .i64 L, .int .i64 H, .int .i64 A], .int .i64 E]) ∧ Below w.heap.size w w' := by
  have VA := Lib.hid va
  have VB := Lib.hid vb
  have KX := Lib.hid kx
  have hs : (aa == ba) = false := by simp; omega
  clear va vb kx
  unfold MC at hres
  rcases hres with hres | hres | hres | hres | hres | hres
  · obtain ⟨r, q⟩ := hres
    have HQQ := Lib.hid q
    clear q
    go_enter Try.func33, Try.ntmps33
    go_wp2_with fail
    refine (rsvalid_lit _ _ _ true _ VA.out).mono ?_
    rintro e w1 ⟨rfl, hb⟩
    have oA : Own w1 w.heap.size [.int .i64 al, .int .i64 ah, .int .i64 aa] 23 := (((own_at _ _ rfl).alloc _).alloc _).below hb
    have oB : Own w1 (w.heap.size + 1) [.int .i64 bl, .int .i64 bh, .int .i64 ba] 23 := ((own_at _ _ (by simp)).alloc _).below hb
    have oR : Own w1 (w.heap.size + 2) [.int .i64 0, .int .i64 0, .int .i64 0] 23 := (own_at _ _ (by simp)).below hb
    have bel := belowTo (((belowNew w _).alloc (by simp) _).alloc (by simp; omega) _) hb (by simp; omega)
    clear hb
    obtain ⟨cA0, cA1, cA2, fA, zA⟩ := own3 oA
    obtain ⟨cB0, cB1, cB2, fB, zB⟩ := own3 oB
    obtain ⟨cR0, cR1, cR2, fR, zR⟩ := own3 oR
    go_wp2_with fail
    refine (rsvalid_lit _ _ _ true _ VB.out).mono ?_
    rintro e w2 ⟨rfl, hb⟩
    replace oA := oA.below hb
    replace oB := oB.below hb
    replace oR := oR.below hb
    replace bel := belowTo bel hb bel.size
    clear hb cA0 cA1 cA2 fA zA cB0 cB1 cB2 fB zB cR0 cR1 cR2 fR zR
    obtain ⟨cA0, cA1, cA2, fA, zA⟩ := own3 oA
    obtain ⟨cB0, cB1, cB2, fB, zB⟩ := own3 oB
    obtain ⟨cR0, cR1, cR2, fR, zR⟩ := own3 oR
    have gw3 := gr_range KX.out r
    go_wp2_with fail
    refine (rgrow_lit bl bh ba aa 0 0 0 3 _ ⟨gw3.2.1, gw3.2.2.1, gw3.2.2.2, gw3.1⟩).mono ?_
    rintro e w3 ⟨rfl, hb⟩
    replace oA := oA.below hb
    replace oB := oB.below hb
    replace oR := oR.below hb
    replace bel := belowTo bel hb bel.size
    clear hb cA0 cA1 cA2 fA zA cB0 cB1 cB2 fB zB cR0 cR1 cR2 fR zR
    obtain ⟨cA0, cA1, cA2, fA, zA⟩ := own3 oA
    obtain ⟨cB0, cB1, cB2, fB, zB⟩ := own3 oB
    obtain ⟨cR0, cR1, cR2, fR, zR⟩ := own3 oR
    go_wp2
    refine bodyPost_ret (v := .tuple #[.agg #[.int .i64 0, .int .i64 0, .int .i64 0], .int .i64 3]) (by simp [results, Try.results33, go_sem, *]) rfl ⟨tup4 HQQ.out, ?_⟩
    repeat (first | (with_reducible exact bel) | (with_reducible refine belowSet ?_ _ _ _ ?_) | (with_reducible refine Below.alloc ?_ ?_ _))
    all_goals (first | omega | (have := bel.size; simp; omega) | simp)
  · obtain ⟨r, hh, c, q⟩ := hres
    obtain ⟨GL, hGL⟩ : ∃ g, g = bl - gm (aa - ba) := ⟨_, rfl⟩
    obtain ⟨GH, hGH⟩ : ∃ g, g = bh + gm (aa - ba) := ⟨_, rfl⟩
    rw [← hGL, ← hGH] at c
    obtain ⟨P, hP⟩ : ∃ p, p = mx GL al := ⟨_, rfl⟩
    obtain ⟨Q, hQ⟩ : ∃ p, p = mn GH ah := ⟨_, rfl⟩
    rw [← hP, ← hQ] at c
    have HP : Hid ((if al < GL then GL else al) = P) := (mx_com _ _).trans hP.symm
    have HQ : Hid ((if GH < ah then GH else ah) = Q) := (mn_com _ _).trans hQ.symm
    clear hP hQ
    have HGL := Lib.hid hGL
    have HGH := Lib.hid hGH
    clear hGL hGH
    have HQQ := Lib.hid q
    clear q
    go_enter Try.func33, Try.ntmps33
    go_wp2_with fail
    refine (rsvalid_lit _ _ _ true _ VA.out).mono ?_
    rintro e w1 ⟨rfl, hb⟩
    have oA : Own w1 w.heap.size [.int .i64 al, .int .i64 ah, .int .i64 aa] 23 := (((own_at _ _ rfl).alloc _).alloc _).below hb
    have oB : Own w1 (w.heap.size + 1) [.int .i64 bl, .int .i64 bh, .int .i64 ba] 23 := ((own_at _ _ (by simp)).alloc _).below hb
    have oR : Own w1 (w.heap.size + 2) [.int .i64 0, .int .i64 0, .int .i64 0] 23 := (own_at _ _ (by simp)).below hb
    have bel := belowTo (((belowNew w _).alloc (by simp) _).alloc (by simp; omega) _) hb (by simp; omega)
    clear hb
    obtain ⟨cA0, cA1, cA2, fA, zA⟩ := own3 oA
    obtain ⟨cB0, cB1, cB2, fB, zB⟩ := own3 oB
    obtain ⟨cR0, cR1, cR2, fR, zR⟩ := own3 oR
    go_wp2_with fail
    refine (rsvalid_lit _ _ _ true _ VB.out).mono ?_
    rintro e w2 ⟨rfl, hb⟩
    replace oA := oA.below hb
    replace oB := oB.below hb
    replace oR := oR.below hb
    replace bel := belowTo bel hb bel.size
    clear hb cA0 cA1 cA2 fA zA cB0 cB1 cB2 fB zB cR0 cR1 cR2 fR zR
    obtain ⟨cA0, cA1, cA2, fA, zA⟩ := own3 oA
    obtain ⟨cB0, cB1, cB2, fB, zB⟩ := own3 oB
    obtain ⟨cR0, cR1, cR2, fR, zR⟩ := own3 oR
    have gw3 := gr_ok KX.out r
    rw [← HGL.out, ← HGH.out] at gw3
    go_wp2_with fail
    refine (rgrow_lit bl bh ba aa GL GH aa 0 _ ⟨gw3.2.1, gw3.2.2.1, gw3.2.2.2, gw3.1⟩).mono ?_
    rintro e w3 ⟨rfl, hb⟩
    replace oA := oA.below hb
    replace oB := oB.below hb
    replace oR := oR.below hb
    replace bel := belowTo bel hb bel.size
    clear hb cA0 cA1 cA2 fA zA cB0 cB1 cB2 fB zB cR0 cR1 cR2 fR zR
    obtain ⟨cA0, cA1, cA2, fA, zA⟩ := own3 oA
    obtain ⟨cB0, cB1, cB2, fB, zB⟩ := own3 oB
    obtain ⟨cR0, cR1, cR2, fR, zR⟩ := own3 oR
    go_upto_if 79 with (fail)
    rw [HP.out, HQ.out]
    go_wp2
    refine bodyPost_ret (v := .tuple #[.agg #[.int .i64 0, .int .i64 0, .int .i64 0], .int .i64 16]) (by simp [results, Try.results33, go_sem, *]) rfl ⟨tup4 HQQ.out, ?_⟩
    repeat (first | (with_reducible exact bel) | (with_reducible refine belowSet ?_ _ _ _ ?_) | (with_reducible refine Below.alloc ?_ ?_ _))
    all_goals (first | omega | (have := bel.size; simp; omega) | simp)
  · obtain ⟨r, hh, c, q⟩ := hres
    obtain ⟨GL, hGL⟩ : ∃ g, g = bl - gm (aa - ba) := ⟨_, rfl⟩
    obtain ⟨GH, hGH⟩ : ∃ g, g = bh + gm (aa - ba) := ⟨_, rfl⟩
    rw [← hGL, ← hGH] at c q
    obtain ⟨P, hP⟩ : ∃ p, p = mx GL al := ⟨_, rfl⟩
    obtain ⟨Q, hQ⟩ : ∃ p, p = mn GH ah := ⟨_, rfl⟩
    rw [← hP, ← hQ] at c q
    have HP : Hid ((if al < GL then GL else al) = P) := (mx_com _ _).trans hP.symm
    have HQ : Hid ((if GH < ah then GH else ah) = Q) := (mn_com _ _).trans hQ.symm
    clear hP hQ
    have HGL := Lib.hid hGL
    have HGH := Lib.hid hGH
    clear hGL hGH
    have HQQ := Lib.hid q
    clear q
    go_enter Try.func33, Try.ntmps33
    go_wp2_with fail
    refine (rsvalid_lit _ _ _ true _ VA.out).mono ?_
    rintro e w1 ⟨rfl, hb⟩
    have oA : Own w1 w.heap.size [.int .i64 al, .int .i64 ah, .int .i64 aa] 23 := (((own_at _ _ rfl).alloc _).alloc _).below hb
    have oB : Own w1 (w.heap.size + 1) [.int .i64 bl, .int .i64 bh, .int .i64 ba] 23 := ((own_at _ _ (by simp)).alloc _).below hb
    have oR : Own w1 (w.heap.size + 2) [.int .i64 0, .int .i64 0, .int .i64 0] 23 := (own_at _ _ (by simp)).below hb
    have bel := belowTo (((belowNew w _).alloc (by simp) _).alloc (by simp; omega) _) hb (by simp; omega)
    clear hb
    obtain ⟨cA0, cA1, cA2, fA, zA⟩ := own3 oA
    obtain ⟨cB0, cB1, cB2, fB, zB⟩ := own3 oB
    obtain ⟨cR0, cR1, cR2, fR, zR⟩ := own3 oR
    go_wp2_with fail
    refine (rsvalid_lit _ _ _ true _ VB.out).mono ?_
    rintro e w2 ⟨rfl, hb⟩
    replace oA := oA.below hb
    replace oB := oB.below hb
    replace oR := oR.below hb
    replace bel := belowTo bel hb bel.size
    clear hb cA0 cA1 cA2 fA zA cB0 cB1 cB2 fB zB cR0 cR1 cR2 fR zR
    obtain ⟨cA0, cA1, cA2, fA, zA⟩ := own3 oA
    obtain ⟨cB0, cB1, cB2, fB, zB⟩ := own3 oB
    obtain ⟨cR0, cR1, cR2, fR, zR⟩ := own3 oR
    have gw3 := gr_ok KX.out r
    rw [← HGL.out, ← HGH.out] at gw3
    go_wp2_with fail
    refine (rgrow_lit bl bh ba aa GL GH aa 0 _ ⟨gw3.2.1, gw3.2.2.1, gw3.2.2.2, gw3.1⟩).mono ?_
    rintro e w3 ⟨rfl, hb⟩
    replace oA := oA.below hb
    replace oB := oB.below hb
    replace oR := oR.below hb
    replace bel := belowTo bel hb bel.size
    clear hb cA0 cA1 cA2 fA zA cB0 cB1 cB2 fB zB cR0 cR1 cR2 fR zR
    obtain ⟨cA0, cA1, cA2, fA, zA⟩ := own3 oA
    obtain ⟨cB0, cB1, cB2, fB, zB⟩ := own3 oB
    obtain ⟨cR0, cR1, cR2, fR, zR⟩ := own3 oR
    go_upto_if 79 with (fail)
    rw [HP.out, HQ.out]
    go_wp2
    refine bodyPost_ret (v := .tuple #[.agg #[.int .i64 P, .int .i64 Q, .int .i64 aa], .int .i64 0]) (by simp [results, Try.results33, go_sem, *]) rfl ⟨tup4 HQQ.out, ?_⟩
    repeat (first | (with_reducible exact bel) | (with_reducible refine belowSet ?_ _ _ _ ?_) | (with_reducible refine Below.alloc ?_ ?_ _))
    all_goals (first | omega | (have := bel.size; simp; omega) | simp)
  · obtain ⟨r, hh, _⟩ := hres
    exfalso
    omega
  · obtain ⟨r, hh, _⟩ := hres
    exfalso
    omega
  · obtain ⟨r, hh, _⟩ := hres
    exfalso
    omega

set_option maxRecDepth 100000 in
set_option maxHeartbeats 16000000 in
theorem rmeet_eq (al ah aa bl bh L H A E : Int) (w : World) (va : vldS al ah aa = true) (vb : vldS bl bh aa = true) (kx : okA al ah aa aa = true) (ky : okA bl bh aa aa = true) (hres : MC al ah aa bl bh aa L H A E) :
    Calls Try.prog 33 #[.agg #[.int .i64 al, .int .i64 ah, .int .i64 aa], .agg #[.int .i64 bl, .int .i64 bh, .int .i64 aa]] w
      fun e w' => e = .returned (.tuple #[.agg #[.int .i64 L, .int .i64 H, .int .i64 A], .int .i64 E]) ∧ Below w.heap.size w w' := by
  have VA := Lib.hid va
  have VB := Lib.hid vb
  have KX := Lib.hid kx
  have KY := Lib.hid ky
  clear va vb kx ky
  unfold MC at hres
  rcases hres with hres | hres | hres | hres | hres | hres
  · obtain ⟨r, q⟩ := hres
    have HQQ := Lib.hid q
    clear q
    rcases Bool.eq_false_or_eq_true (okR bl bh aa aa) with r2 | r2
    · obtain ⟨ML, hML⟩ : ∃ g, g = bl - gm (aa - aa) := ⟨_, rfl⟩
      obtain ⟨MH, hMH⟩ : ∃ g, g = bh + gm (aa - aa) := ⟨_, rfl⟩
      have HML := Lib.hid hML
      have HMH := Lib.hid hMH
      clear hML hMH
      go_enter Try.func33, Try.ntmps33
      go_wp2_with fail
      refine (rsvalid_lit _ _ _ true _ VA.out).mono ?_
      rintro e w1 ⟨rfl, hb⟩
      have oA : Own w1 w.heap.size [.int .i64 al, .int .i64 ah, .int .i64 aa] 23 := (((own_at _ _ rfl).alloc _).alloc _).below hb
      have oB : Own w1 (w.heap.size + 1) [.int .i64 bl, .int .i64 bh, .int .i64 aa] 23 := ((own_at _ _ (by simp)).alloc _).below hb
      have oR : Own w1 (w.heap.size + 2) [.int .i64 0, .int .i64 0, .int .i64 0] 23 := (own_at _ _ (by simp)).below hb
      have bel := belowTo (((belowNew w _).alloc (by simp) _).alloc (by simp; omega) _) hb (by simp; omega)
      clear hb
      obtain ⟨cA0, cA1, cA2, fA, zA⟩ := own3 oA
      obtain ⟨cB0, cB1, cB2, fB, zB⟩ := own3 oB
      obtain ⟨cR0, cR1, cR2, fR, zR⟩ := own3 oR
      go_wp2_with fail
      refine (rsvalid_lit _ _ _ true _ VB.out).mono ?_
      rintro e w2 ⟨rfl, hb⟩
      replace oA := oA.below hb
      replace oB := oB.below hb
      replace oR := oR.below hb
      replace bel := belowTo bel hb bel.size
      clear hb cA0 cA1 cA2 fA zA cB0 cB1 cB2 fB zB cR0 cR1 cR2 fR zR
      obtain ⟨cA0, cA1, cA2, fA, zA⟩ := own3 oA
      obtain ⟨cB0, cB1, cB2, fB, zB⟩ := own3 oB
      obtain ⟨cR0, cR1, cR2, fR, zR⟩ := own3 oR
      have gw3 := gr_range KX.out r
      go_wp2_with fail
      refine (rgrow_lit al ah aa aa 0 0 0 3 _ ⟨gw3.2.1, gw3.2.2.1, gw3.2.2.2, gw3.1⟩).mono ?_
      rintro e w3 ⟨rfl, hb⟩
      replace oA := oA.below hb
      replace oB := oB.below hb
      replace oR := oR.below hb
      replace bel := belowTo bel hb bel.size
      clear hb cA0 cA1 cA2 fA zA cB0 cB1 cB2 fB zB cR0 cR1 cR2 fR zR
      obtain ⟨cA0, cA1, cA2, fA, zA⟩ := own3 oA
      obtain ⟨cB0, cB1, cB2, fB, zB⟩ := own3 oB
      obtain ⟨cR0, cR1, cR2, fR, zR⟩ := own3 oR
      have gw4 := gr_ok KY.out r2
      rw [← HML.out, ← HMH.out] at gw4
      go_wp2_with fail
      replace oB := ((oB.other (by simp) (a := ⟨w.heap.size, 0, none⟩) (.int .i64 0)).other (by simp) (a := ⟨w.heap.size, 1, none⟩) (.int .i64 0)).other (by simp) (a := ⟨w.heap.size, 2, none⟩) (.int .i64 0)
      replace oR := ((oR.other (by simp) (a := ⟨w.heap.size, 0, none⟩) (.int .i64 0)).other (by simp) (a := ⟨w.heap.size, 1, none⟩) (.int .i64 0)).other (by simp) (a := ⟨w.heap.size, 2, none⟩) (.int .i64 0)
      replace bel := ((bel.setCell (p := ⟨w.heap.size, 0, none⟩) (by simp) (.int .i64 0)).setCell (p := ⟨w.heap.size, 1, none⟩) (by simp) (.int .i64 0)).setCell (p := ⟨w.heap.size, 2, none⟩) (by simp) (.int .i64 0)
      replace oA : Own _ (w.heap.size) [.int .i64 0, .int .i64 0, .int .i64 0] 23 := ((oA.set 0 (.int .i64 0)).set 1 (.int .i64 0)).set 2 (.int .i64 0)
      clear cA0 cA1 cA2 fA zA cB0 cB1 cB2 fB zB cR0 cR1 cR2 fR zR
      obtain ⟨cA0, cA1, cA2, fA, zA⟩ := own3 oA
      obtain ⟨cB0, cB1, cB2, fB, zB⟩ := own3 oB
      obtain ⟨cR0, cR1, cR2, fR, zR⟩ := own3 oR
      refine (rgrow_lit bl bh aa aa ML MH aa 0 _ ⟨gw4.2.1, gw4.2.2.1, gw4.2.2.2, gw4.1⟩).mono ?_
      rintro e w4 ⟨rfl, hb⟩
      replace oA := oA.below hb
      replace oB := oB.below hb
      replace oR := oR.below hb
      replace bel := belowTo bel hb bel.size
      clear hb cA0 cA1 cA2 fA zA cB0 cB1 cB2 fB zB cR0 cR1 cR2 fR zR
      obtain ⟨cA0, cA1, cA2, fA, zA⟩ := own3 oA
      obtain ⟨cB0, cB1, cB2, fB, zB⟩ := own3 oB
      obtain ⟨cR0, cR1, cR2, fR, zR⟩ := own3 oR
      go_wp2
      refine bodyPost_ret (v := .tuple #[.agg #[.int .i64 0, .int .i64 0, .int .i64 0], .int .i64 3]) (by simp [results, Try.results33, go_sem, *]) rfl ⟨tup4 HQQ.out, ?_⟩
      repeat (first | (with_reducible exact bel) | (with_reducible refine belowSet ?_ _ _ _ ?_) | (with_reducible refine Below.alloc ?_ ?_ _))
      all_goals (first | omega | (have := bel.size; simp; omega) | simp)
    · go_enter Try.func33, Try.ntmps33
      go_wp2_with fail
      refine (rsvalid_lit _ _ _ true _ VA.out).mono ?_
      rintro e w1 ⟨rfl, hb⟩
      have oA : Own w1 w.heap.size [.int .i64 al, .int .i64 ah, .int .i64 aa] 23 := (((own_at _ _ rfl).alloc _).alloc _).below hb
      have oB : Own w1 (w.heap.size + 1) [.int .i64 bl, .int .i64 bh, .int .i64 aa] 23 := ((own_at _ _ (by simp)).alloc _).below hb
      have oR : Own w1 (w.heap.size + 2) [.int .i64 0, .int .i64 0, .int .i64 0] 23 := (own_at _ _ (by simp)).below hb
      have bel := belowTo (((belowNew w _).alloc (by simp) _).alloc (by simp; omega) _) hb (by simp; omega)
      clear hb
      obtain ⟨cA0, cA1, cA2, fA, zA⟩ := own3 oA
      obtain ⟨cB0, cB1, cB2, fB, zB⟩ := own3 oB
      obtain ⟨cR0, cR1, cR2, fR, zR⟩ := own3 oR
      go_wp2_with fail
      refine (rsvalid_lit _ _ _ true _ VB.out).mono ?_
      rintro e w2 ⟨rfl, hb⟩
      replace oA := oA.below hb
      replace oB := oB.below hb
      replace oR := oR.below hb
      replace bel := belowTo bel hb bel.size
      clear hb cA0 cA1 cA2 fA zA cB0 cB1 cB2 fB zB cR0 cR1 cR2 fR zR
      obtain ⟨cA0, cA1, cA2, fA, zA⟩ := own3 oA
      obtain ⟨cB0, cB1, cB2, fB, zB⟩ := own3 oB
      obtain ⟨cR0, cR1, cR2, fR, zR⟩ := own3 oR
      have gw3 := gr_range KX.out r
      go_wp2_with fail
      refine (rgrow_lit al ah aa aa 0 0 0 3 _ ⟨gw3.2.1, gw3.2.2.1, gw3.2.2.2, gw3.1⟩).mono ?_
      rintro e w3 ⟨rfl, hb⟩
      replace oA := oA.below hb
      replace oB := oB.below hb
      replace oR := oR.below hb
      replace bel := belowTo bel hb bel.size
      clear hb cA0 cA1 cA2 fA zA cB0 cB1 cB2 fB zB cR0 cR1 cR2 fR zR
      obtain ⟨cA0, cA1, cA2, fA, zA⟩ := own3 oA
      obtain ⟨cB0, cB1, cB2, fB, zB⟩ := own3 oB
      obtain ⟨cR0, cR1, cR2, fR, zR⟩ := own3 oR
      have gw4 := gr_range KY.out r2
      go_wp2_with fail
      replace oB := ((oB.other (by simp) (a := ⟨w.heap.size, 0, none⟩) (.int .i64 0)).other (by simp) (a := ⟨w.heap.size, 1, none⟩) (.int .i64 0)).other (by simp) (a := ⟨w.heap.size, 2, none⟩) (.int .i64 0)
      replace oR := ((oR.other (by simp) (a := ⟨w.heap.size, 0, none⟩) (.int .i64 0)).other (by simp) (a := ⟨w.heap.size, 1, none⟩) (.int .i64 0)).other (by simp) (a := ⟨w.heap.size, 2, none⟩) (.int .i64 0)
      replace bel := ((bel.setCell (p := ⟨w.heap.size, 0, none⟩) (by simp) (.int .i64 0)).setCell (p := ⟨w.heap.size, 1, none⟩) (by simp) (.int .i64 0)).setCell (p := ⟨w.heap.size, 2, none⟩) (by simp) (.int .i64 0)
      replace oA : Own _ (w.heap.size) [.int .i64 0, .int .i64 0, .int .i64 0] 23 := ((oA.set 0 (.int .i64 0)).set 1 (.int .i64 0)).set 2 (.int .i64 0)
      clear cA0 cA1 cA2 fA zA cB0 cB1 cB2 fB zB cR0 cR1 cR2 fR zR
      obtain ⟨cA0, cA1, cA2, fA, zA⟩ := own3 oA
      obtain ⟨cB0, cB1, cB2, fB, zB⟩ := own3 oB
      obtain ⟨cR0, cR1, cR2, fR, zR⟩ := own3 oR
      refine (rgrow_lit bl bh aa aa 0 0 0 3 _ ⟨gw4.2.1, gw4.2.2.1, gw4.2.2.2, gw4.1⟩).mono ?_
      rintro e w4 ⟨rfl, hb⟩
      replace oA := oA.below hb
      replace oB := oB.below hb
      replace oR := oR.below hb
      replace bel := belowTo bel hb bel.size
      clear hb cA0 cA1 cA2 fA zA cB0 cB1 cB2 fB zB cR0 cR1 cR2 fR zR
      obtain ⟨cA0, cA1, cA2, fA, zA⟩ := own3 oA
      obtain ⟨cB0, cB1, cB2, fB, zB⟩ := own3 oB
      obtain ⟨cR0, cR1, cR2, fR, zR⟩ := own3 oR
      go_wp2
      refine bodyPost_ret (v := .tuple #[.agg #[.int .i64 0, .int .i64 0, .int .i64 0], .int .i64 3]) (by simp [results, Try.results33, go_sem, *]) rfl ⟨tup4 HQQ.out, ?_⟩
      repeat (first | (with_reducible exact bel) | (with_reducible refine belowSet ?_ _ _ _ ?_) | (with_reducible refine Below.alloc ?_ ?_ _))
      all_goals (first | omega | (have := bel.size; simp; omega) | simp)
  · obtain ⟨r, hh, _⟩ := hres
    exfalso
    omega
  · obtain ⟨r, hh, _⟩ := hres
    exfalso
    omega
  · obtain ⟨r, hh, r2, q⟩ := hres
    clear hh
    obtain ⟨GL, hGL⟩ : ∃ g, g = al - gm (aa - aa) := ⟨_, rfl⟩
    obtain ⟨GH, hGH⟩ : ∃ g, g = ah + gm (aa - aa) := ⟨_, rfl⟩
    have HGL := Lib.hid hGL
    have HGH := Lib.hid hGH
    clear hGL hGH
    have HQQ := Lib.hid q
    clear q
    go_enter Try.func33, Try.ntmps33
    go_wp2_with fail
    refine (rsvalid_lit _ _ _ true _ VA.out).mono ?_
    rintro e w1 ⟨rfl, hb⟩
    have oA : Own w1 w.heap.size [.int .i64 al, .int .i64 ah, .int .i64 aa] 23 := (((own_at _ _ rfl).alloc _).alloc _).below hb
    have oB : Own w1 (w.heap.size + 1) [.int .i64 bl, .int .i64 bh, .int .i64 aa] 23 := ((own_at _ _ (by simp)).alloc _).below hb
    have oR : Own w1 (w.heap.size + 2) [.int .i64 0, .int .i64 0, .int .i64 0] 23 := (own_at _ _ (by simp)).below hb
    have bel := belowTo (((belowNew w _).alloc (by simp) _).alloc (by simp; omega) _) hb (by simp; omega)
    clear hb
    obtain ⟨cA0, cA1, cA2, fA, zA⟩ := own3 oA
    obtain ⟨cB0, cB1, cB2, fB, zB⟩ := own3 oB
    obtain ⟨cR0, cR1, cR2, fR, zR⟩ := own3 oR
    go_wp2_with fail
    refine (rsvalid_lit _ _ _ true _ VB.out).mono ?_
    rintro e w2 ⟨rfl, hb⟩
    replace oA := oA.below hb
    replace oB := oB.below hb
    replace oR := oR.below hb
    replace bel := belowTo bel hb bel.size
    clear hb cA0 cA1 cA2 fA zA cB0 cB1 cB2 fB zB cR0 cR1 cR2 fR zR
    obtain ⟨cA0, cA1, cA2, fA, zA⟩ := own3 oA
    obtain ⟨cB0, cB1, cB2, fB, zB⟩ := own3 oB
    obtain ⟨cR0, cR1, cR2, fR, zR⟩ := own3 oR
    have gw3 := gr_ok KX.out r
    rw [← HGL.out, ← HGH.out] at gw3
    go_wp2_with fail
    refine (rgrow_lit al ah aa aa GL GH aa 0 _ ⟨gw3.2.1, gw3.2.2.1, gw3.2.2.2, gw3.1⟩).mono ?_
    rintro e w3 ⟨rfl, hb⟩
    replace oA := oA.below hb
    replace oB := oB.below hb
    replace oR := oR.below hb
    replace bel := belowTo bel hb bel.size
    clear hb cA0 cA1 cA2 fA zA cB0 cB1 cB2 fB zB cR0 cR1 cR2 fR zR
    obtain ⟨cA0, cA1, cA2, fA, zA⟩ := own3 oA
    obtain ⟨cB0, cB1, cB2, fB, zB⟩ := own3 oB
    obtain ⟨cR0, cR1, cR2, fR, zR⟩ := own3 oR
    have gw4 := gr_range KY.out r2
    go_wp2_with fail
    replace oB := ((oB.other (by simp) (a := ⟨w.heap.size, 0, none⟩) (.int .i64 GL)).other (by simp) (a := ⟨w.heap.size, 1, none⟩) (.int .i64 GH)).other (by simp) (a := ⟨w.heap.size, 2, none⟩) (.int .i64 aa)
    replace oR := ((oR.other (by simp) (a := ⟨w.heap.size, 0, none⟩) (.int .i64 GL)).other (by simp) (a := ⟨w.heap.size, 1, none⟩) (.int .i64 GH)).other (by simp) (a := ⟨w.heap.size, 2, none⟩) (.int .i64 aa)
    replace bel := ((bel.setCell (p := ⟨w.heap.size, 0, none⟩) (by simp) (.int .i64 GL)).setCell (p := ⟨w.heap.size, 1, none⟩) (by simp) (.int .i64 GH)).setCell (p := ⟨w.heap.size, 2, none⟩) (by simp) (.int .i64 aa)
    replace oA : Own _ (w.heap.size) [.int .i64 GL, .int .i64 GH, .int .i64 aa] 23 := ((oA.set 0 (.int .i64 GL)).set 1 (.int .i64 GH)).set 2 (.int .i64 aa)
    clear cA0 cA1 cA2 fA zA cB0 cB1 cB2 fB zB cR0 cR1 cR2 fR zR
    obtain ⟨cA0, cA1, cA2, fA, zA⟩ := own3 oA
    obtain ⟨cB0, cB1, cB2, fB, zB⟩ := own3 oB
    obtain ⟨cR0, cR1, cR2, fR, zR⟩ := own3 oR
    refine (rgrow_lit bl bh aa aa 0 0 0 3 _ ⟨gw4.2.1, gw4.2.2.1, gw4.2.2.2, gw4.1⟩).mono ?_
    rintro e w4 ⟨rfl, hb⟩
    replace oA := oA.below hb
    replace oB := oB.below hb
    replace oR := oR.below hb
    replace bel := belowTo bel hb bel.size
    clear hb cA0 cA1 cA2 fA zA cB0 cB1 cB2 fB zB cR0 cR1 cR2 fR zR
    obtain ⟨cA0, cA1, cA2, fA, zA⟩ := own3 oA
    obtain ⟨cB0, cB1, cB2, fB, zB⟩ := own3 oB
    obtain ⟨cR0, cR1, cR2, fR, zR⟩ := own3 oR
    go_wp2
    refine bodyPost_ret (v := .tuple #[.agg #[.int .i64 0, .int .i64 0, .int .i64 0], .int .i64 3]) (by simp [results, Try.results33, go_sem, *]) rfl ⟨tup4 HQQ.out, ?_⟩
    repeat (first | (with_reducible exact bel) | (with_reducible refine belowSet ?_ _ _ _ ?_) | (with_reducible refine Below.alloc ?_ ?_ _))
    all_goals (first | omega | (have := bel.size; simp; omega) | simp)
  · obtain ⟨r, hh, r2, c, q⟩ := hres
    clear hh
    obtain ⟨GL, hGL⟩ : ∃ g, g = al - gm (aa - aa) := ⟨_, rfl⟩
    obtain ⟨GH, hGH⟩ : ∃ g, g = ah + gm (aa - aa) := ⟨_, rfl⟩
    obtain ⟨ML, hML⟩ : ∃ g, g = bl - gm (aa - aa) := ⟨_, rfl⟩
    obtain ⟨MH, hMH⟩ : ∃ g, g = bh + gm (aa - aa) := ⟨_, rfl⟩
    rw [← hGL, ← hGH, ← hML, ← hMH] at c
    obtain ⟨P, hP⟩ : ∃ p, p = mx GL ML := ⟨_, rfl⟩
    obtain ⟨Q, hQ⟩ : ∃ p, p = mn GH MH := ⟨_, rfl⟩
    rw [← hP, ← hQ] at c
    have HP : Hid ((if GL < ML then ML else GL) = P) := hP.symm
    have HQ : Hid ((if MH < GH then MH else GH) = Q) := hQ.symm
    clear hP hQ
    have HGL := Lib.hid hGL
    have HGH := Lib.hid hGH
    clear hGL hGH
    have HML := Lib.hid hML
    have HMH := Lib.hid hMH
    clear hML hMH
    have HQQ := Lib.hid q
    clear q
    go_enter Try.func33, Try.ntmps33
    go_wp2_with fail
    refine (rsvalid_lit _ _ _ true _ VA.out).mono ?_
    rintro e w1 ⟨rfl, hb⟩
    have oA : Own w1 w.heap.size [.int .i64 al, .int .i64 ah, .int .i64 aa] 23 := (((own_at _ _ rfl).alloc _).alloc _).below hb
    have oB : Own w1 (w.heap.size + 1) [.int .i64 bl, .int .i64 bh, .int .i64 aa] 23 := ((own_at _ _ (by simp)).alloc _).below hb
    have oR : Own w1 (w.heap.size + 2) [.int .i64 0, .int .i64 0, .int .i64 0] 23 := (own_at _ _ (by simp)).below hb
    have bel := belowTo (((belowNew w _).alloc (by simp) _).alloc (by simp; omega) _) hb (by simp; omega)
    clear hb
    obtain ⟨cA0, cA1, cA2, fA, zA⟩ := own3 oA
    obtain ⟨cB0, cB1, cB2, fB, zB⟩ := own3 oB
    obtain ⟨cR0, cR1, cR2, fR, zR⟩ := own3 oR
    go_wp2_with fail
    refine (rsvalid_lit _ _ _ true _ VB.out).mono ?_
    rintro e w2 ⟨rfl, hb⟩
    replace oA := oA.below hb
    replace oB := oB.below hb
    replace oR := oR.below hb
    replace bel := belowTo bel hb bel.size
    clear hb cA0 cA1 cA2 fA zA cB0 cB1 cB2 fB zB cR0 cR1 cR2 fR zR
    obtain ⟨cA0, cA1, cA2, fA, zA⟩ := own3 oA
    obtain ⟨cB0, cB1, cB2, fB, zB⟩ := own3 oB
    obtain ⟨cR0, cR1, cR2, fR, zR⟩ := own3 oR
    have gw3 := gr_ok KX.out r
    rw [← HGL.out, ← HGH.out] at gw3
    go_wp2_with fail
    refine (rgrow_lit al ah aa aa GL GH aa 0 _ ⟨gw3.2.1, gw3.2.2.1, gw3.2.2.2, gw3.1⟩).mono ?_
    rintro e w3 ⟨rfl, hb⟩
    replace oA := oA.below hb
    replace oB := oB.below hb
    replace oR := oR.below hb
    replace bel := belowTo bel hb bel.size
    clear hb cA0 cA1 cA2 fA zA cB0 cB1 cB2 fB zB cR0 cR1 cR2 fR zR
    obtain ⟨cA0, cA1, cA2, fA, zA⟩ := own3 oA
    obtain ⟨cB0, cB1, cB2, fB, zB⟩ := own3 oB
    obtain ⟨cR0, cR1, cR2, fR, zR⟩ := own3 oR
    have gw4 := gr_ok KY.out r2
    rw [← HML.out, ← HMH.out] at gw4
    go_wp2_with fail
    replace oB := ((oB.other (by simp) (a := ⟨w.heap.size, 0, none⟩) (.int .i64 GL)).other (by simp) (a := ⟨w.heap.size, 1, none⟩) (.int .i64 GH)).other (by simp) (a := ⟨w.heap.size, 2, none⟩) (.int .i64 aa)
    replace oR := ((oR.other (by simp) (a := ⟨w.heap.size, 0, none⟩) (.int .i64 GL)).other (by simp) (a := ⟨w.heap.size, 1, none⟩) (.int .i64 GH)).other (by simp) (a := ⟨w.heap.size, 2, none⟩) (.int .i64 aa)
    replace bel := ((bel.setCell (p := ⟨w.heap.size, 0, none⟩) (by simp) (.int .i64 GL)).setCell (p := ⟨w.heap.size, 1, none⟩) (by simp) (.int .i64 GH)).setCell (p := ⟨w.heap.size, 2, none⟩) (by simp) (.int .i64 aa)
    replace oA : Own _ (w.heap.size) [.int .i64 GL, .int .i64 GH, .int .i64 aa] 23 := ((oA.set 0 (.int .i64 GL)).set 1 (.int .i64 GH)).set 2 (.int .i64 aa)
    clear cA0 cA1 cA2 fA zA cB0 cB1 cB2 fB zB cR0 cR1 cR2 fR zR
    obtain ⟨cA0, cA1, cA2, fA, zA⟩ := own3 oA
    obtain ⟨cB0, cB1, cB2, fB, zB⟩ := own3 oB
    obtain ⟨cR0, cR1, cR2, fR, zR⟩ := own3 oR
    refine (rgrow_lit bl bh aa aa ML MH aa 0 _ ⟨gw4.2.1, gw4.2.2.1, gw4.2.2.2, gw4.1⟩).mono ?_
    rintro e w4 ⟨rfl, hb⟩
    replace oA := oA.below hb
    replace oB := oB.below hb
    replace oR := oR.below hb
    replace bel := belowTo bel hb bel.size
    clear hb cA0 cA1 cA2 fA zA cB0 cB1 cB2 fB zB cR0 cR1 cR2 fR zR
    obtain ⟨cA0, cA1, cA2, fA, zA⟩ := own3 oA
    obtain ⟨cB0, cB1, cB2, fB, zB⟩ := own3 oB
    obtain ⟨cR0, cR1, cR2, fR, zR⟩ := own3 oR
    go_upto_if 79 with (fail)
    rw [HP.out, HQ.out]
    go_wp2
    refine bodyPost_ret (v := .tuple #[.agg #[.int .i64 0, .int .i64 0, .int .i64 0], .int .i64 16]) (by simp [results, Try.results33, go_sem, *]) rfl ⟨tup4 HQQ.out, ?_⟩
    repeat (first | (with_reducible exact bel) | (with_reducible refine belowSet ?_ _ _ _ ?_) | (with_reducible refine Below.alloc ?_ ?_ _))
    all_goals (first | omega | (have := bel.size; simp; omega) | simp)
  · obtain ⟨r, hh, r2, c, q⟩ := hres
    clear hh
    obtain ⟨GL, hGL⟩ : ∃ g, g = al - gm (aa - aa) := ⟨_, rfl⟩
    obtain ⟨GH, hGH⟩ : ∃ g, g = ah + gm (aa - aa) := ⟨_, rfl⟩
    obtain ⟨ML, hML⟩ : ∃ g, g = bl - gm (aa - aa) := ⟨_, rfl⟩
    obtain ⟨MH, hMH⟩ : ∃ g, g = bh + gm (aa - aa) := ⟨_, rfl⟩
    rw [← hGL, ← hGH, ← hML, ← hMH] at c q
    obtain ⟨P, hP⟩ : ∃ p, p = mx GL ML := ⟨_, rfl⟩
    obtain ⟨Q, hQ⟩ : ∃ p, p = mn GH MH := ⟨_, rfl⟩
    rw [← hP, ← hQ] at c q
    have HP : Hid ((if GL < ML then ML else GL) = P) := hP.symm
    have HQ : Hid ((if MH < GH then MH else GH) = Q) := hQ.symm
    clear hP hQ
    have HGL := Lib.hid hGL
    have HGH := Lib.hid hGH
    clear hGL hGH
    have HML := Lib.hid hML
    have HMH := Lib.hid hMH
    clear hML hMH
    have HQQ := Lib.hid q
    clear q
    go_enter Try.func33, Try.ntmps33
    go_wp2_with fail
    refine (rsvalid_lit _ _ _ true _ VA.out).mono ?_
    rintro e w1 ⟨rfl, hb⟩
    have oA : Own w1 w.heap.size [.int .i64 al, .int .i64 ah, .int .i64 aa] 23 := (((own_at _ _ rfl).alloc _).alloc _).below hb
    have oB : Own w1 (w.heap.size + 1) [.int .i64 bl, .int .i64 bh, .int .i64 aa] 23 := ((own_at _ _ (by simp)).alloc _).below hb
    have oR : Own w1 (w.heap.size + 2) [.int .i64 0, .int .i64 0, .int .i64 0] 23 := (own_at _ _ (by simp)).below hb
    have bel := belowTo (((belowNew w _).alloc (by simp) _).alloc (by simp; omega) _) hb (by simp; omega)
    clear hb
    obtain ⟨cA0, cA1, cA2, fA, zA⟩ := own3 oA
    obtain ⟨cB0, cB1, cB2, fB, zB⟩ := own3 oB
    obtain ⟨cR0, cR1, cR2, fR, zR⟩ := own3 oR
    go_wp2_with fail
    refine (rsvalid_lit _ _ _ true _ VB.out).mono ?_
    rintro e w2 ⟨rfl, hb⟩
    replace oA := oA.below hb
    replace oB := oB.below hb
    replace oR := oR.below hb
    replace bel := belowTo bel hb bel.size
    clear hb cA0 cA1 cA2 fA zA cB0 cB1 cB2 fB zB cR0 cR1 cR2 fR zR
    obtain ⟨cA0, cA1, cA2, fA, zA⟩ := own3 oA
    obtain ⟨cB0, cB1, cB2, fB, zB⟩ := own3 oB
    obtain ⟨cR0, cR1, cR2, fR, zR⟩ := own3 oR
    have gw3 := gr_ok KX.out r
    rw [← HGL.out, ← HGH.out] at gw3
    go_wp2_with fail
    refine (rgrow_lit al ah aa aa GL GH aa 0 _ ⟨gw3.2.1, gw3.2.2.1, gw3.2.2.2, gw3.1⟩).mono ?_
    rintro e w3 ⟨rfl, hb⟩
    replace oA := oA.below hb
    replace oB := oB.below hb
    replace oR := oR.below hb
    replace bel := belowTo bel hb bel.size
    clear hb cA0 cA1 cA2 fA zA cB0 cB1 cB2 fB zB cR0 cR1 cR2 fR zR
    obtain ⟨cA0, cA1, cA2, fA, zA⟩ := own3 oA
    obtain ⟨cB0, cB1, cB2, fB, zB⟩ := own3 oB
    obtain ⟨cR0, cR1, cR2, fR, zR⟩ := own3 oR
    have gw4 := gr_ok KY.out r2
    rw [← HML.out, ← HMH.out] at gw4
    go_wp2_with fail
    replace oB := ((oB.other (by simp) (a := ⟨w.heap.size, 0, none⟩) (.int .i64 GL)).other (by simp) (a := ⟨w.heap.size, 1, none⟩) (.int .i64 GH)).other (by simp) (a := ⟨w.heap.size, 2, none⟩) (.int .i64 aa)
    replace oR := ((oR.other (by simp) (a := ⟨w.heap.size, 0, none⟩) (.int .i64 GL)).other (by simp) (a := ⟨w.heap.size, 1, none⟩) (.int .i64 GH)).other (by simp) (a := ⟨w.heap.size, 2, none⟩) (.int .i64 aa)
    replace bel := ((bel.setCell (p := ⟨w.heap.size, 0, none⟩) (by simp) (.int .i64 GL)).setCell (p := ⟨w.heap.size, 1, none⟩) (by simp) (.int .i64 GH)).setCell (p := ⟨w.heap.size, 2, none⟩) (by simp) (.int .i64 aa)
    replace oA : Own _ (w.heap.size) [.int .i64 GL, .int .i64 GH, .int .i64 aa] 23 := ((oA.set 0 (.int .i64 GL)).set 1 (.int .i64 GH)).set 2 (.int .i64 aa)
    clear cA0 cA1 cA2 fA zA cB0 cB1 cB2 fB zB cR0 cR1 cR2 fR zR
    obtain ⟨cA0, cA1, cA2, fA, zA⟩ := own3 oA
    obtain ⟨cB0, cB1, cB2, fB, zB⟩ := own3 oB
    obtain ⟨cR0, cR1, cR2, fR, zR⟩ := own3 oR
    refine (rgrow_lit bl bh aa aa ML MH aa 0 _ ⟨gw4.2.1, gw4.2.2.1, gw4.2.2.2, gw4.1⟩).mono ?_
    rintro e w4 ⟨rfl, hb⟩
    replace oA := oA.below hb
    replace oB := oB.below hb
    replace oR := oR.below hb
    replace bel := belowTo bel hb bel.size
    clear hb cA0 cA1 cA2 fA zA cB0 cB1 cB2 fB zB cR0 cR1 cR2 fR zR
    obtain ⟨cA0, cA1, cA2, fA, zA⟩ := own3 oA
    obtain ⟨cB0, cB1, cB2, fB, zB⟩ := own3 oB
    obtain ⟨cR0, cR1, cR2, fR, zR⟩ := own3 oR
    go_upto_if 79 with (fail)
    rw [HP.out, HQ.out]
    go_wp2
    refine bodyPost_ret (v := .tuple #[.agg #[.int .i64 P, .int .i64 Q, .int .i64 aa], .int .i64 0]) (by simp [results, Try.results33, go_sem, *]) rfl ⟨tup4 HQQ.out, ?_⟩
    repeat (first | (with_reducible exact bel) | (with_reducible refine belowSet ?_ _ _ _ ?_) | (with_reducible refine Below.alloc ?_ ?_ _))
    all_goals (first | omega | (have := bel.size; simp; omega) | simp)

set_option maxHeartbeats 2000000 in
theorem rmeet_bad (al ah aa bl bh ba : Int) (w : World) (k : ¬(vldS al ah aa = true ∧ vldS bl bh ba = true)) :
    Calls Try.prog 33 #[.agg #[.int .i64 al, .int .i64 ah, .int .i64 aa], .agg #[.int .i64 bl, .int .i64 bh, .int .i64 ba]] w
      fun e w' => e = .returned (.tuple #[.agg #[.int .i64 0, .int .i64 0, .int .i64 0], .int .i64 1]) ∧ Below w.heap.size w w' := by
  rcases Bool.eq_false_or_eq_true (vldS al ah aa) with va | va
  · have vb : vldS bl bh ba = false := by
      rcases Bool.eq_false_or_eq_true (vldS bl bh ba) with h | h
      · exact absurd ⟨va, h⟩ k
      · exact h
    have VA := Lib.hid va
    have VB := Lib.hid vb
    clear va vb k
    go_enter Try.func33, Try.ntmps33
    go_wp2_with fail
    refine (rsvalid_lit _ _ _ true _ VA.out).mono ?_
    rintro e w1 ⟨rfl, hb⟩
    have oA : Own w1 w.heap.size [.int .i64 al, .int .i64 ah, .int .i64 aa] 23 := (((own_at _ _ rfl).alloc _).alloc _).below hb
    have oB : Own w1 (w.heap.size + 1) [.int .i64 bl, .int .i64 bh, .int .i64 ba] 23 := ((own_at _ _ (by simp)).alloc _).below hb
    have oR : Own w1 (w.heap.size + 2) [.int .i64 0, .int .i64 0, .int .i64 0] 23 := (own_at _ _ (by simp)).below hb
    have bel := belowTo (((belowNew w _).alloc (by simp) _).alloc (by simp; omega) _) hb (by simp; omega)
    clear hb
    obtain ⟨cA0, cA1, cA2, fA, zA⟩ := own3 oA
    obtain ⟨cB0, cB1, cB2, fB, zB⟩ := own3 oB
    obtain ⟨cR0, cR1, cR2, fR, zR⟩ := own3 oR
    go_wp2_with fail
    refine (rsvalid_lit _ _ _ false _ VB.out).mono ?_
    rintro e w2 ⟨rfl, hb⟩
    replace oA := oA.below hb
    replace oB := oB.below hb
    replace oR := oR.below hb
    replace bel := belowTo bel hb bel.size
    clear hb cA0 cA1 cA2 fA zA cB0 cB1 cB2 fB zB cR0 cR1 cR2 fR zR
    obtain ⟨cA0, cA1, cA2, fA, zA⟩ := own3 oA
    obtain ⟨cB0, cB1, cB2, fB, zB⟩ := own3 oB
    obtain ⟨cR0, cR1, cR2, fR, zR⟩ := own3 oR
    go_wp2
    refine bodyPost_ret (v := .tuple #[.agg #[.int .i64 0, .int .i64 0, .int .i64 0], .int .i64 1]) (by simp [results, Try.results33, go_sem, *]) rfl ⟨tup4 ⟨rfl, rfl, rfl, rfl⟩, ?_⟩
    repeat (first | (with_reducible exact bel) | (with_reducible refine belowSet ?_ _ _ _ ?_) | (with_reducible refine Below.alloc ?_ ?_ _))
    all_goals (first | omega | (have := bel.size; simp; omega) | simp)
  · have VA := Lib.hid va
    clear va k
    go_enter Try.func33, Try.ntmps33
    go_wp2_with fail
    refine (rsvalid_lit _ _ _ false _ VA.out).mono ?_
    rintro e w1 ⟨rfl, hb⟩
    have oA : Own w1 w.heap.size [.int .i64 al, .int .i64 ah, .int .i64 aa] 23 := (((own_at _ _ rfl).alloc _).alloc _).below hb
    have oB : Own w1 (w.heap.size + 1) [.int .i64 bl, .int .i64 bh, .int .i64 ba] 23 := ((own_at _ _ (by simp)).alloc _).below hb
    have oR : Own w1 (w.heap.size + 2) [.int .i64 0, .int .i64 0, .int .i64 0] 23 := (own_at _ _ (by simp)).below hb
    have bel := belowTo (((belowNew w _).alloc (by simp) _).alloc (by simp; omega) _) hb (by simp; omega)
    clear hb
    obtain ⟨cA0, cA1, cA2, fA, zA⟩ := own3 oA
    obtain ⟨cB0, cB1, cB2, fB, zB⟩ := own3 oB
    obtain ⟨cR0, cR1, cR2, fR, zR⟩ := own3 oR
    go_wp2
    refine bodyPost_ret (v := .tuple #[.agg #[.int .i64 0, .int .i64 0, .int .i64 0], .int .i64 1]) (by simp [results, Try.results33, go_sem, *]) rfl ⟨tup4 ⟨rfl, rfl, rfl, rfl⟩, ?_⟩
    repeat (first | (with_reducible exact bel) | (with_reducible refine belowSet ?_ _ _ _ ?_) | (with_reducible refine Below.alloc ?_ ?_ _))
    all_goals (first | omega | (have := bel.size; simp; omega) | simp)


theorem rmeet_any (al ah aa bl bh ba : Int) (w : World) :
    Calls Try.prog 33 #[.agg #[.int .i64 al, .int .i64 ah, .int .i64 aa], .agg #[.int .i64 bl, .int .i64 bh, .int .i64 ba]] w
      fun e w' => e = .returned (.tuple #[.agg #[.int .i64 (mtL al ah aa bl bh ba), .int .i64 (mtH al ah aa bl bh ba), .int .i64 (mtA al ah aa bl bh ba)], .int .i64 (mtE al ah aa bl bh ba)]) ∧ Below w.heap.size w w' := by
  by_cases k : vldS al ah aa = true ∧ vldS bl bh ba = true
  · obtain ⟨va, vb⟩ := k
    by_cases h : ba < aa
    · exact rmeet_gt al ah aa bl bh ba _ _ _ _ w va vb h (okA_iff.2 ⟨vb, by omega, (vldS_iff.1 va).2.2.2.2⟩) (mt_gt va vb h)
    · by_cases h2 : aa < ba
      · exact rmeet_lt al ah aa bl bh ba _ _ _ _ w va vb h2 (okA_iff.2 ⟨va, by omega, (vldS_iff.1 vb).2.2.2.2⟩) (mt_le va vb (by omega))
      · obtain rfl : aa = ba := by omega
        exact rmeet_eq al ah aa bl bh _ _ _ _ w va vb (okA_iff.2 ⟨va, by omega, (vldS_iff.1 vb).2.2.2.2⟩) (okA_iff.2 ⟨vb, by omega, (vldS_iff.1 vb).2.2.2.2⟩) (mt_le va vb (by omega))
  · obtain ⟨e1, e2, e3, e4⟩ := mt_no k
    rw [e1, e2, e3, e4]
    exact rmeet_bad al ah aa bl bh ba w k

theorem rmeet_lit (al ah aa bl bh ba L H A E : Int) (w : World) (k : mtL al ah aa bl bh ba = L ∧ mtH al ah aa bl bh ba = H ∧ mtA al ah aa bl bh ba = A ∧ mtE al ah aa bl bh ba = E) :
    Calls Try.prog 33 #[.agg #[.int .i64 al, .int .i64 ah, .int .i64 aa], .agg #[.int .i64 bl, .int .i64 bh, .int .i64 ba]] w
      fun e w' => e = .returned (.tuple #[.agg #[.int .i64 L, .int .i64 H, .int .i64 A], .int .i64 E]) ∧ Below w.heap.size w w' := by
  have := rmeet_any al ah aa bl bh ba w
  rwa [k.1, k.2.1, k.2.2.1, k.2.2.2] at this

end Go.Proofs.Ytfclodgfifbfbaa
