/- BoundNarrower: the ways of its walk, part 2 of three. -/
import Derived.Test.YtaodaglaflohbaaHead08
namespace Go.Proofs.Ytaodaglaflohbaa
open Go.RowKit
set_option linter.unusedVariables false

set_option maxRecDepth 100000 in
set_option maxHeartbeats 4000000 in
theorem boundNarrower_21 (l h a lo hi n bl bh ba L1 H1 A1 L2 H2 A2 L3 H3 A3 L4 H4 A4 E2 E3 E4 : Int) (w : World) (u1 : 0 ≤ lo) (u2 : lo ≤ 65535) (u3 : 0 ≤ hi) (u4 : hi ≤ 65535) (b1 : -20000000000000 ≤ l) (b2 : l ≤ h) (b3 : h ≤ 20000000000000) (e2 : (E2 == 0) = false) (e3 : (E3 == 0) = false)
    (h1 : grL l h a n = L1 ∧ grH l h a n = H1 ∧ grA l h a n = A1 ∧ grE l h a n = 0) (h2 : grL (l - lo) (h + hi) a n = L2 ∧ grH (l - lo) (h + hi) a n = H2 ∧ grA (l - lo) (h + hi) a n = A2 ∧ grE (l - lo) (h + hi) a n = E2) (h3 : mtL l h a bl bh ba = L3 ∧ mtH l h a bl bh ba = H3 ∧ mtA l h a bl bh ba = A3 ∧ mtE l h a bl bh ba = E3) (h4 : mtL (l - lo) (h + hi) a bl bh ba = L4 ∧ mtH (l - lo) (h + hi) a bl bh ba = H4 ∧ mtA (l - lo) (h + hi) a bl bh ba = A4 ∧ mtE (l - lo) (h + hi) a bl bh ba = E4) :
    Calls Try.prog 7 #[.agg #[.int .i64 l, .int .i64 h, .int .i64 a], .int .u16 lo, .int .u16 hi, .int .i64 n, .agg #[.int .i64 bl, .int .i64 bh, .int .i64 ba]] w fun e w' => e = .returned (.bool true) ∧ Below w.heap.size w w' := by
  go_enter Try.func7, Try.ntmps7
  go_wp2_with fail
  refine (head_any _).mono ?_
  rintro e w1 ⟨rfl, hb⟩
  have oS : Own w1 w.heap.size [.int .i64 l, .int .i64 h, .int .i64 a] 23 := ((own_at _ _ rfl).alloc _).below hb
  have oO : Own w1 (w.heap.size + 1) [.int .i64 bl, .int .i64 bh, .int .i64 ba] 23 := (own_at _ _ (by simp)).below hb
  have bel := belowTo (((Below.refl w.heap.size w).alloc (by simp) _).alloc (by simp) _) hb (by simp; omega)
  clear hb 
  obtain ⟨cS0, cS1, cS2, fS, zS⟩ := own3 oS
  obtain ⟨cO0, cO1, cO2, fO, zO⟩ := own3 oO
  go_wp2_with fail
  refine (bgrow_lit l h a n L1 H1 A1 0 _ h1).mono ?_
  rintro e w2 ⟨rfl, hb⟩
  replace oS := (oS.alloc _).below hb
  replace oO := (oO.alloc _).below hb
  have oW : Own w2 w1.heap.size [.int .i64 (l - lo), .int .i64 (h + hi), .int .i64 a] 23 := (own_at _ _ rfl).below hb
  replace bel := belowTo (bel.alloc (by have := bel.size; simp; omega) _) hb (by have := bel.size; simp; omega)
  clear hb cS0 cS1 cS2 fS zS cO0 cO1 cO2 fO zO
  obtain ⟨cS0, cS1, cS2, fS, zS⟩ := own3 oS
  obtain ⟨cO0, cO1, cO2, fO, zO⟩ := own3 oO
  obtain ⟨cW0, cW1, cW2, fW, zW⟩ := own3 oW
  go_wp2_with fail
  refine (bgrow_lit (l - lo) (h + hi) a n L2 H2 A2 E2 _ h2).mono ?_
  rintro e w3 ⟨rfl, hb⟩
  replace oS := (oS.alloc _).below hb
  replace oO := (oO.alloc _).below hb
  replace oW := (oW.alloc _).below hb
  have oX : Own w3 w2.heap.size [.int .i64 L1, .int .i64 H1, .int .i64 A1] 23 := (own_at _ _ rfl).below hb
  replace bel := belowTo (bel.alloc (by have := bel.size; simp; omega) _) hb (by have := bel.size; simp; omega)
  clear hb cS0 cS1 cS2 fS zS cO0 cO1 cO2 fO zO cW0 cW1 cW2 fW zW
  obtain ⟨cS0, cS1, cS2, fS, zS⟩ := own3 oS
  obtain ⟨cO0, cO1, cO2, fO, zO⟩ := own3 oO
  obtain ⟨cW0, cW1, cW2, fW, zW⟩ := own3 oW
  obtain ⟨cX0, cX1, cX2, fX, zX⟩ := own3 oX
  go_wp2_with fail
  refine (meet_lit l h a bl bh ba L3 H3 A3 E3 _ h3).mono ?_
  rintro e w4 ⟨rfl, hb⟩
  clear oX cX0 cX1 cX2 fX zX
  replace oS := (oS.alloc _).below hb
  replace oO := (oO.alloc _).below hb
  replace oW := (oW.alloc _).below hb
  replace bel := belowTo (bel.alloc (by have := bel.size; simp; omega) _) hb (by have := bel.size; simp; omega)
  clear hb cS0 cS1 cS2 fS zS cO0 cO1 cO2 fO zO cW0 cW1 cW2 fW zW
  obtain ⟨cS0, cS1, cS2, fS, zS⟩ := own3 oS
  obtain ⟨cO0, cO1, cO2, fO, zO⟩ := own3 oO
  obtain ⟨cW0, cW1, cW2, fW, zW⟩ := own3 oW
  go_wp2_with fail
  refine (meet_lit (l - lo) (h + hi) a bl bh ba L4 H4 A4 E4 _ h4).mono ?_
  rintro e w5 ⟨rfl, hb⟩
  replace oS := (oS.alloc _).below hb
  replace oO := (oO.alloc _).below hb
  replace oW := (oW.alloc _).below hb
  have oZ : Own w5 w4.heap.size [.int .i64 L3, .int .i64 H3, .int .i64 A3] 23 := (own_at _ _ rfl).below hb
  replace bel := belowTo (bel.alloc (by have := bel.size; simp; omega) _) hb (by have := bel.size; simp; omega)
  clear hb cS0 cS1 cS2 fS zS cO0 cO1 cO2 fO zO cW0 cW1 cW2 fW zW
  obtain ⟨cS0, cS1, cS2, fS, zS⟩ := own3 oS
  obtain ⟨cO0, cO1, cO2, fO, zO⟩ := own3 oO
  obtain ⟨cW0, cW1, cW2, fW, zW⟩ := own3 oW
  obtain ⟨cZ0, cZ1, cZ2, fZ, zZ⟩ := own3 oZ
  go_wp2
  go_ret
  exact ⟨rfl, bel.alloc bel.size _⟩

set_option maxRecDepth 100000 in
set_option maxHeartbeats 4000000 in
theorem boundNarrower_22 (l h a lo hi n bl bh ba L1 H1 A1 L2 H2 A2 L3 H3 A3 L4 H4 A4 E2 : Int) (w : World) (u1 : 0 ≤ lo) (u2 : lo ≤ 65535) (u3 : 0 ≤ hi) (u4 : hi ≤ 65535) (b1 : -20000000000000 ≤ l) (b2 : l ≤ h) (b3 : h ≤ 20000000000000) (e2 : (E2 == 0) = false)
    (h1 : grL l h a n = L1 ∧ grH l h a n = H1 ∧ grA l h a n = A1 ∧ grE l h a n = 0) (h2 : grL (l - lo) (h + hi) a n = L2 ∧ grH (l - lo) (h + hi) a n = H2 ∧ grA (l - lo) (h + hi) a n = A2 ∧ grE (l - lo) (h + hi) a n = E2) (h3 : mtL l h a bl bh ba = L3 ∧ mtH l h a bl bh ba = H3 ∧ mtA l h a bl bh ba = A3 ∧ mtE l h a bl bh ba = 0) (h4 : mtL (l - lo) (h + hi) a bl bh ba = L4 ∧ mtH (l - lo) (h + hi) a bl bh ba = H4 ∧ mtA (l - lo) (h + hi) a bl bh ba = A4 ∧ mtE (l - lo) (h + hi) a bl bh ba = 1) :
    Calls Try.prog 7 #[.agg #[.int .i64 l, .int .i64 h, .int .i64 a], .int .u16 lo, .int .u16 hi, .int .i64 n, .agg #[.int .i64 bl, .int .i64 bh, .int .i64 ba]] w fun e w' => e = .returned (.bool true) ∧ Below w.heap.size w w' := by
  go_enter Try.func7, Try.ntmps7
  go_wp2_with fail
  refine (head_any _).mono ?_
  rintro e w1 ⟨rfl, hb⟩
  have oS : Own w1 w.heap.size [.int .i64 l, .int .i64 h, .int .i64 a] 23 := ((own_at _ _ rfl).alloc _).below hb
  have oO : Own w1 (w.heap.size + 1) [.int .i64 bl, .int .i64 bh, .int .i64 ba] 23 := (own_at _ _ (by simp)).below hb
  have bel := belowTo (((Below.refl w.heap.size w).alloc (by simp) _).alloc (by simp) _) hb (by simp; omega)
  clear hb 
  obtain ⟨cS0, cS1, cS2, fS, zS⟩ := own3 oS
  obtain ⟨cO0, cO1, cO2, fO, zO⟩ := own3 oO
  go_wp2_with fail
  refine (bgrow_lit l h a n L1 H1 A1 0 _ h1).mono ?_
  rintro e w2 ⟨rfl, hb⟩
  replace oS := (oS.alloc _).below hb
  replace oO := (oO.alloc _).below hb
  have oW : Own w2 w1.heap.size [.int .i64 (l - lo), .int .i64 (h + hi), .int .i64 a] 23 := (own_at _ _ rfl).below hb
  replace bel := belowTo (bel.alloc (by have := bel.size; simp; omega) _) hb (by have := bel.size; simp; omega)
  clear hb cS0 cS1 cS2 fS zS cO0 cO1 cO2 fO zO
  obtain ⟨cS0, cS1, cS2, fS, zS⟩ := own3 oS
  obtain ⟨cO0, cO1, cO2, fO, zO⟩ := own3 oO
  obtain ⟨cW0, cW1, cW2, fW, zW⟩ := own3 oW
  go_wp2_with fail
  refine (bgrow_lit (l - lo) (h + hi) a n L2 H2 A2 E2 _ h2).mono ?_
  rintro e w3 ⟨rfl, hb⟩
  replace oS := (oS.alloc _).below hb
  replace oO := (oO.alloc _).below hb
  replace oW := (oW.alloc _).below hb
  have oX : Own w3 w2.heap.size [.int .i64 L1, .int .i64 H1, .int .i64 A1] 23 := (own_at _ _ rfl).below hb
  replace bel := belowTo (bel.alloc (by have := bel.size; simp; omega) _) hb (by have := bel.size; simp; omega)
  clear hb cS0 cS1 cS2 fS zS cO0 cO1 cO2 fO zO cW0 cW1 cW2 fW zW
  obtain ⟨cS0, cS1, cS2, fS, zS⟩ := own3 oS
  obtain ⟨cO0, cO1, cO2, fO, zO⟩ := own3 oO
  obtain ⟨cW0, cW1, cW2, fW, zW⟩ := own3 oW
  obtain ⟨cX0, cX1, cX2, fX, zX⟩ := own3 oX
  go_wp2_with fail
  refine (meet_lit l h a bl bh ba L3 H3 A3 0 _ h3).mono ?_
  rintro e w4 ⟨rfl, hb⟩
  clear oX cX0 cX1 cX2 fX zX
  replace oS := (oS.alloc _).below hb
  replace oO := (oO.alloc _).below hb
  replace oW := (oW.alloc _).below hb
  replace bel := belowTo (bel.alloc (by have := bel.size; simp; omega) _) hb (by have := bel.size; simp; omega)
  clear hb cS0 cS1 cS2 fS zS cO0 cO1 cO2 fO zO cW0 cW1 cW2 fW zW
  obtain ⟨cS0, cS1, cS2, fS, zS⟩ := own3 oS
  obtain ⟨cO0, cO1, cO2, fO, zO⟩ := own3 oO
  obtain ⟨cW0, cW1, cW2, fW, zW⟩ := own3 oW
  go_wp2_with fail
  refine (meet_lit (l - lo) (h + hi) a bl bh ba L4 H4 A4 1 _ h4).mono ?_
  rintro e w5 ⟨rfl, hb⟩
  replace oS := (oS.alloc _).below hb
  replace oO := (oO.alloc _).below hb
  replace oW := (oW.alloc _).below hb
  have oZ : Own w5 w4.heap.size [.int .i64 L3, .int .i64 H3, .int .i64 A3] 23 := (own_at _ _ rfl).below hb
  replace bel := belowTo (bel.alloc (by have := bel.size; simp; omega) _) hb (by have := bel.size; simp; omega)
  clear hb cS0 cS1 cS2 fS zS cO0 cO1 cO2 fO zO cW0 cW1 cW2 fW zW
  obtain ⟨cS0, cS1, cS2, fS, zS⟩ := own3 oS
  obtain ⟨cO0, cO1, cO2, fO, zO⟩ := own3 oO
  obtain ⟨cW0, cW1, cW2, fW, zW⟩ := own3 oW
  obtain ⟨cZ0, cZ1, cZ2, fZ, zZ⟩ := own3 oZ
  go_wp2
  go_ret
  exact ⟨rfl, bel.alloc bel.size _⟩

set_option maxRecDepth 100000 in
set_option maxHeartbeats 4000000 in
theorem boundNarrower_23 (l h a lo hi n bl bh ba L1 H1 A1 L2 H2 A2 L3 H3 A3 L4 H4 A4 E2 : Int) (w : World) (u1 : 0 ≤ lo) (u2 : lo ≤ 65535) (u3 : 0 ≤ hi) (u4 : hi ≤ 65535) (b1 : -20000000000000 ≤ l) (b2 : l ≤ h) (b3 : h ≤ 20000000000000) (e2 : (E2 == 0) = false)
    (h1 : grL l h a n = L1 ∧ grH l h a n = H1 ∧ grA l h a n = A1 ∧ grE l h a n = 0) (h2 : grL (l - lo) (h + hi) a n = L2 ∧ grH (l - lo) (h + hi) a n = H2 ∧ grA (l - lo) (h + hi) a n = A2 ∧ grE (l - lo) (h + hi) a n = E2) (h3 : mtL l h a bl bh ba = L3 ∧ mtH l h a bl bh ba = H3 ∧ mtA l h a bl bh ba = A3 ∧ mtE l h a bl bh ba = 0) (h4 : mtL (l - lo) (h + hi) a bl bh ba = L4 ∧ mtH (l - lo) (h + hi) a bl bh ba = H4 ∧ mtA (l - lo) (h + hi) a bl bh ba = A4 ∧ mtE (l - lo) (h + hi) a bl bh ba = 3) :
    Calls Try.prog 7 #[.agg #[.int .i64 l, .int .i64 h, .int .i64 a], .int .u16 lo, .int .u16 hi, .int .i64 n, .agg #[.int .i64 bl, .int .i64 bh, .int .i64 ba]] w fun e w' => e = .returned (.bool true) ∧ Below w.heap.size w w' := by
  go_enter Try.func7, Try.ntmps7
  go_wp2_with fail
  refine (head_any _).mono ?_
  rintro e w1 ⟨rfl, hb⟩
  have oS : Own w1 w.heap.size [.int .i64 l, .int .i64 h, .int .i64 a] 23 := ((own_at _ _ rfl).alloc _).below hb
  have oO : Own w1 (w.heap.size + 1) [.int .i64 bl, .int .i64 bh, .int .i64 ba] 23 := (own_at _ _ (by simp)).below hb
  have bel := belowTo (((Below.refl w.heap.size w).alloc (by simp) _).alloc (by simp) _) hb (by simp; omega)
  clear hb 
  obtain ⟨cS0, cS1, cS2, fS, zS⟩ := own3 oS
  obtain ⟨cO0, cO1, cO2, fO, zO⟩ := own3 oO
  go_wp2_with fail
  refine (bgrow_lit l h a n L1 H1 A1 0 _ h1).mono ?_
  rintro e w2 ⟨rfl, hb⟩
  replace oS := (oS.alloc _).below hb
  replace oO := (oO.alloc _).below hb
  have oW : Own w2 w1.heap.size [.int .i64 (l - lo), .int .i64 (h + hi), .int .i64 a] 23 := (own_at _ _ rfl).below hb
  replace bel := belowTo (bel.alloc (by have := bel.size; simp; omega) _) hb (by have := bel.size; simp; omega)
  clear hb cS0 cS1 cS2 fS zS cO0 cO1 cO2 fO zO
  obtain ⟨cS0, cS1, cS2, fS, zS⟩ := own3 oS
  obtain ⟨cO0, cO1, cO2, fO, zO⟩ := own3 oO
  obtain ⟨cW0, cW1, cW2, fW, zW⟩ := own3 oW
  go_wp2_with fail
  refine (bgrow_lit (l - lo) (h + hi) a n L2 H2 A2 E2 _ h2).mono ?_
  rintro e w3 ⟨rfl, hb⟩
  replace oS := (oS.alloc _).below hb
  replace oO := (oO.alloc _).below hb
  replace oW := (oW.alloc _).below hb
  have oX : Own w3 w2.heap.size [.int .i64 L1, .int .i64 H1, .int .i64 A1] 23 := (own_at _ _ rfl).below hb
  replace bel := belowTo (bel.alloc (by have := bel.size; simp; omega) _) hb (by have := bel.size; simp; omega)
  clear hb cS0 cS1 cS2 fS zS cO0 cO1 cO2 fO zO cW0 cW1 cW2 fW zW
  obtain ⟨cS0, cS1, cS2, fS, zS⟩ := own3 oS
  obtain ⟨cO0, cO1, cO2, fO, zO⟩ := own3 oO
  obtain ⟨cW0, cW1, cW2, fW, zW⟩ := own3 oW
  obtain ⟨cX0, cX1, cX2, fX, zX⟩ := own3 oX
  go_wp2_with fail
  refine (meet_lit l h a bl bh ba L3 H3 A3 0 _ h3).mono ?_
  rintro e w4 ⟨rfl, hb⟩
  clear oX cX0 cX1 cX2 fX zX
  replace oS := (oS.alloc _).below hb
  replace oO := (oO.alloc _).below hb
  replace oW := (oW.alloc _).below hb
  replace bel := belowTo (bel.alloc (by have := bel.size; simp; omega) _) hb (by have := bel.size; simp; omega)
  clear hb cS0 cS1 cS2 fS zS cO0 cO1 cO2 fO zO cW0 cW1 cW2 fW zW
  obtain ⟨cS0, cS1, cS2, fS, zS⟩ := own3 oS
  obtain ⟨cO0, cO1, cO2, fO, zO⟩ := own3 oO
  obtain ⟨cW0, cW1, cW2, fW, zW⟩ := own3 oW
  go_wp2_with fail
  refine (meet_lit (l - lo) (h + hi) a bl bh ba L4 H4 A4 3 _ h4).mono ?_
  rintro e w5 ⟨rfl, hb⟩
  replace oS := (oS.alloc _).below hb
  replace oO := (oO.alloc _).below hb
  replace oW := (oW.alloc _).below hb
  have oZ : Own w5 w4.heap.size [.int .i64 L3, .int .i64 H3, .int .i64 A3] 23 := (own_at _ _ rfl).below hb
  replace bel := belowTo (bel.alloc (by have := bel.size; simp; omega) _) hb (by have := bel.size; simp; omega)
  clear hb cS0 cS1 cS2 fS zS cO0 cO1 cO2 fO zO cW0 cW1 cW2 fW zW
  obtain ⟨cS0, cS1, cS2, fS, zS⟩ := own3 oS
  obtain ⟨cO0, cO1, cO2, fO, zO⟩ := own3 oO
  obtain ⟨cW0, cW1, cW2, fW, zW⟩ := own3 oW
  obtain ⟨cZ0, cZ1, cZ2, fZ, zZ⟩ := own3 oZ
  go_wp2
  go_ret
  exact ⟨rfl, bel.alloc bel.size _⟩

set_option maxRecDepth 100000 in
set_option maxHeartbeats 4000000 in
theorem boundNarrower_24 (l h a lo hi n bl bh ba L1 H1 A1 L2 H2 A2 L3 H3 A3 L4 H4 A4 E2 : Int) (w : World) (u1 : 0 ≤ lo) (u2 : lo ≤ 65535) (u3 : 0 ≤ hi) (u4 : hi ≤ 65535) (b1 : -20000000000000 ≤ l) (b2 : l ≤ h) (b3 : h ≤ 20000000000000) (e2 : (E2 == 0) = false) (i2 : inS L3 H3 A3 L4 H4 A4 = true)
    (h1 : grL l h a n = L1 ∧ grH l h a n = H1 ∧ grA l h a n = A1 ∧ grE l h a n = 0) (h2 : grL (l - lo) (h + hi) a n = L2 ∧ grH (l - lo) (h + hi) a n = H2 ∧ grA (l - lo) (h + hi) a n = A2 ∧ grE (l - lo) (h + hi) a n = E2) (h3 : mtL l h a bl bh ba = L3 ∧ mtH l h a bl bh ba = H3 ∧ mtA l h a bl bh ba = A3 ∧ mtE l h a bl bh ba = 0) (h4 : mtL (l - lo) (h + hi) a bl bh ba = L4 ∧ mtH (l - lo) (h + hi) a bl bh ba = H4 ∧ mtA (l - lo) (h + hi) a bl bh ba = A4 ∧ mtE (l - lo) (h + hi) a bl bh ba = 0) :
    Calls Try.prog 7 #[.agg #[.int .i64 l, .int .i64 h, .int .i64 a], .int .u16 lo, .int .u16 hi, .int .i64 n, .agg #[.int .i64 bl, .int .i64 bh, .int .i64 ba]] w fun e w' => e = .returned (.bool true) ∧ Below w.heap.size w w' := by
  go_enter Try.func7, Try.ntmps7
  go_wp2_with fail
  refine (head_any _).mono ?_
  rintro e w1 ⟨rfl, hb⟩
  have oS : Own w1 w.heap.size [.int .i64 l, .int .i64 h, .int .i64 a] 23 := ((own_at _ _ rfl).alloc _).below hb
  have oO : Own w1 (w.heap.size + 1) [.int .i64 bl, .int .i64 bh, .int .i64 ba] 23 := (own_at _ _ (by simp)).below hb
  have bel := belowTo (((Below.refl w.heap.size w).alloc (by simp) _).alloc (by simp) _) hb (by simp; omega)
  clear hb 
  obtain ⟨cS0, cS1, cS2, fS, zS⟩ := own3 oS
  obtain ⟨cO0, cO1, cO2, fO, zO⟩ := own3 oO
  go_wp2_with fail
  refine (bgrow_lit l h a n L1 H1 A1 0 _ h1).mono ?_
  rintro e w2 ⟨rfl, hb⟩
  replace oS := (oS.alloc _).below hb
  replace oO := (oO.alloc _).below hb
  have oW : Own w2 w1.heap.size [.int .i64 (l - lo), .int .i64 (h + hi), .int .i64 a] 23 := (own_at _ _ rfl).below hb
  replace bel := belowTo (bel.alloc (by have := bel.size; simp; omega) _) hb (by have := bel.size; simp; omega)
  clear hb cS0 cS1 cS2 fS zS cO0 cO1 cO2 fO zO
  obtain ⟨cS0, cS1, cS2, fS, zS⟩ := own3 oS
  obtain ⟨cO0, cO1, cO2, fO, zO⟩ := own3 oO
  obtain ⟨cW0, cW1, cW2, fW, zW⟩ := own3 oW
  go_wp2_with fail
  refine (bgrow_lit (l - lo) (h + hi) a n L2 H2 A2 E2 _ h2).mono ?_
  rintro e w3 ⟨rfl, hb⟩
  replace oS := (oS.alloc _).below hb
  replace oO := (oO.alloc _).below hb
  replace oW := (oW.alloc _).below hb
  have oX : Own w3 w2.heap.size [.int .i64 L1, .int .i64 H1, .int .i64 A1] 23 := (own_at _ _ rfl).below hb
  replace bel := belowTo (bel.alloc (by have := bel.size; simp; omega) _) hb (by have := bel.size; simp; omega)
  clear hb cS0 cS1 cS2 fS zS cO0 cO1 cO2 fO zO cW0 cW1 cW2 fW zW
  obtain ⟨cS0, cS1, cS2, fS, zS⟩ := own3 oS
  obtain ⟨cO0, cO1, cO2, fO, zO⟩ := own3 oO
  obtain ⟨cW0, cW1, cW2, fW, zW⟩ := own3 oW
  obtain ⟨cX0, cX1, cX2, fX, zX⟩ := own3 oX
  go_wp2_with fail
  refine (meet_lit l h a bl bh ba L3 H3 A3 0 _ h3).mono ?_
  rintro e w4 ⟨rfl, hb⟩
  clear oX cX0 cX1 cX2 fX zX
  replace oS := (oS.alloc _).below hb
  replace oO := (oO.alloc _).below hb
  replace oW := (oW.alloc _).below hb
  replace bel := belowTo (bel.alloc (by have := bel.size; simp; omega) _) hb (by have := bel.size; simp; omega)
  clear hb cS0 cS1 cS2 fS zS cO0 cO1 cO2 fO zO cW0 cW1 cW2 fW zW
  obtain ⟨cS0, cS1, cS2, fS, zS⟩ := own3 oS
  obtain ⟨cO0, cO1, cO2, fO, zO⟩ := own3 oO
  obtain ⟨cW0, cW1, cW2, fW, zW⟩ := own3 oW
  go_wp2_with fail
  refine (meet_lit (l - lo) (h + hi) a bl bh ba L4 H4 A4 0 _ h4).mono ?_
  rintro e w5 ⟨rfl, hb⟩
  replace oS := (oS.alloc _).below hb
  replace oO := (oO.alloc _).below hb
  replace oW := (oW.alloc _).below hb
  have oZ : Own w5 w4.heap.size [.int .i64 L3, .int .i64 H3, .int .i64 A3] 23 := (own_at _ _ rfl).below hb
  replace bel := belowTo (bel.alloc (by have := bel.size; simp; omega) _) hb (by have := bel.size; simp; omega)
  clear hb cS0 cS1 cS2 fS zS cO0 cO1 cO2 fO zO cW0 cW1 cW2 fW zW
  obtain ⟨cS0, cS1, cS2, fS, zS⟩ := own3 oS
  obtain ⟨cO0, cO1, cO2, fO, zO⟩ := own3 oO
  obtain ⟨cW0, cW1, cW2, fW, zW⟩ := own3 oW
  obtain ⟨cZ0, cZ1, cZ2, fZ, zZ⟩ := own3 oZ
  go_wp2_with fail
  refine (inside_lit L3 H3 A3 L4 H4 A4 true _ i2).mono ?_
  rintro e w6 ⟨rfl, hb⟩
  replace oS := (oS.alloc _).below hb
  replace oO := (oO.alloc _).below hb
  replace oW := (oW.alloc _).below hb
  replace oZ := (oZ.alloc _).below hb
  have oT : Own w6 w5.heap.size [.int .i64 L4, .int .i64 H4, .int .i64 A4] 23 := (own_at _ _ rfl).below hb
  replace bel := belowTo (bel.alloc (by have := bel.size; simp; omega) _) hb (by have := bel.size; simp; omega)
  clear hb cS0 cS1 cS2 fS zS cO0 cO1 cO2 fO zO cW0 cW1 cW2 fW zW cZ0 cZ1 cZ2 fZ zZ
  obtain ⟨cS0, cS1, cS2, fS, zS⟩ := own3 oS
  obtain ⟨cO0, cO1, cO2, fO, zO⟩ := own3 oO
  obtain ⟨cW0, cW1, cW2, fW, zW⟩ := own3 oW
  obtain ⟨cZ0, cZ1, cZ2, fZ, zZ⟩ := own3 oZ
  obtain ⟨cT0, cT1, cT2, fT, zT⟩ := own3 oT
  go_wp2
  go_ret
  exact ⟨rfl, bel⟩

end Go.Proofs.Ytaodaglaflohbaa
