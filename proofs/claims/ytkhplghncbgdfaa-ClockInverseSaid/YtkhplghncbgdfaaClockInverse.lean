/- ClockInverse: the walk of the law. It returns true for every clock and all numbers, and leaves old memory alone. -/
import Derived.Test.YtkhplghncbgdfaaHead07
import Derived.Test.YtkhplghncbgdfaaLits07
namespace Go.Proofs.Ytkhplghncbgdfaa
open Go.RowKit

set_option maxHeartbeats 2000000 in
theorem clockInverse_none0 (o d t s A L0 H0 : Int) (w : World) (h1 : shN o d t = A ∧ shE o d t = 0) (h0 : whL o d A = L0 ∧ whH o d A = H0 ∧ whE o d A = 0) (l0 : L0 ≤ t) (l1 : t ≤ H0) (h3 : whL o d s = 0 ∧ whH o d s = 0 ∧ whE o d s = 4) (hne : (A != s) = true) :
    Calls Try.prog 6 #[.agg #[.int .i64 o, .int .i64 d], .int .i64 t, .int .i64 s] w fun e w' => e = .returned (.bool true) ∧ Below w.heap.size w w' := by
  go_enter Try.func6, Try.ntmps6
  go_wp2_with fail
  refine (head_any _).mono ?_
  rintro e w1 ⟨rfl, hb⟩
  have oC : Own w1 w.heap.size [.int .i64 o, .int .i64 d] 23 := (own_at _ _ rfl).below hb
  have bel := belowTo ((Below.refl w.heap.size w).alloc (by simp) _) hb (by simp)
  clear hb 
  obtain ⟨cC0, cC1, fC, zC⟩ := own2 oC
  go_wp2_with fail
  refine (show_lit o d t A 0 _ h1).mono ?_
  rintro e w2 ⟨rfl, hb⟩
  replace oC := oC.below hb
  replace bel := belowTo bel hb (by exact bel.size)
  clear hb cC0 cC1 fC zC
  obtain ⟨cC0, cC1, fC, zC⟩ := own2 oC
  go_wp2_with fail
  refine (when_lit o d A L0 H0 0 _ h0).mono ?_
  rintro e w3 ⟨rfl, hb⟩
  replace oC := oC.below hb
  replace bel := belowTo bel hb (by exact bel.size)
  clear hb cC0 cC1 fC zC
  obtain ⟨cC0, cC1, fC, zC⟩ := own2 oC
  go_wp2_with fail
  refine (when_lit o d s 0 0 4 _ h3).mono ?_
  rintro e w4 ⟨rfl, hb⟩
  replace oC := (oC.alloc _).below hb
  replace bel := belowTo (bel.alloc (by have := bel.size; simp; omega) _) hb (by have := bel.size; simp; omega)
  clear hb cC0 cC1 fC zC
  obtain ⟨cC0, cC1, fC, zC⟩ := own2 oC
  go_wp2
  go_ret
  exact ⟨rfl, bel.alloc bel.size _⟩

set_option maxHeartbeats 2000000 in
theorem clockInverse_arg1 (o d t s A : Int) (w : World) (h1 : shN o d t = A ∧ shE o d t = 1) (h3 : whL o d s = 0 ∧ whH o d s = 0 ∧ whE o d s = 1) :
    Calls Try.prog 6 #[.agg #[.int .i64 o, .int .i64 d], .int .i64 t, .int .i64 s] w fun e w' => e = .returned (.bool true) ∧ Below w.heap.size w w' := by
  go_enter Try.func6, Try.ntmps6
  go_wp2_with fail
  refine (head_any _).mono ?_
  rintro e w1 ⟨rfl, hb⟩
  have oC : Own w1 w.heap.size [.int .i64 o, .int .i64 d] 23 := (own_at _ _ rfl).below hb
  have bel := belowTo ((Below.refl w.heap.size w).alloc (by simp) _) hb (by simp)
  clear hb 
  obtain ⟨cC0, cC1, fC, zC⟩ := own2 oC
  go_wp2_with fail
  refine (show_lit o d t A 1 _ h1).mono ?_
  rintro e w2 ⟨rfl, hb⟩
  replace oC := oC.below hb
  replace bel := belowTo bel hb (by exact bel.size)
  clear hb cC0 cC1 fC zC
  obtain ⟨cC0, cC1, fC, zC⟩ := own2 oC
  go_wp2_with fail
  refine (when_lit o d s 0 0 1 _ h3).mono ?_
  rintro e w4 ⟨rfl, hb⟩
  replace oC := oC.below hb
  replace bel := belowTo bel hb (by exact bel.size)
  clear hb cC0 cC1 fC zC
  obtain ⟨cC0, cC1, fC, zC⟩ := own2 oC
  go_wp2
  go_ret
  exact ⟨rfl, bel.alloc bel.size _⟩

set_option maxHeartbeats 2000000 in
theorem clockInverse_none1 (o d t s A : Int) (w : World) (h1 : shN o d t = A ∧ shE o d t = 1) (h3 : whL o d s = 0 ∧ whH o d s = 0 ∧ whE o d s = 4) :
    Calls Try.prog 6 #[.agg #[.int .i64 o, .int .i64 d], .int .i64 t, .int .i64 s] w fun e w' => e = .returned (.bool true) ∧ Below w.heap.size w w' := by
  go_enter Try.func6, Try.ntmps6
  go_wp2_with fail
  refine (head_any _).mono ?_
  rintro e w1 ⟨rfl, hb⟩
  have oC : Own w1 w.heap.size [.int .i64 o, .int .i64 d] 23 := (own_at _ _ rfl).below hb
  have bel := belowTo ((Below.refl w.heap.size w).alloc (by simp) _) hb (by simp)
  clear hb 
  obtain ⟨cC0, cC1, fC, zC⟩ := own2 oC
  go_wp2_with fail
  refine (show_lit o d t A 1 _ h1).mono ?_
  rintro e w2 ⟨rfl, hb⟩
  replace oC := oC.below hb
  replace bel := belowTo bel hb (by exact bel.size)
  clear hb cC0 cC1 fC zC
  obtain ⟨cC0, cC1, fC, zC⟩ := own2 oC
  go_wp2_with fail
  refine (when_lit o d s 0 0 4 _ h3).mono ?_
  rintro e w4 ⟨rfl, hb⟩
  replace oC := oC.below hb
  replace bel := belowTo bel hb (by exact bel.size)
  clear hb cC0 cC1 fC zC
  obtain ⟨cC0, cC1, fC, zC⟩ := own2 oC
  go_wp2
  go_ret
  exact ⟨rfl, bel.alloc bel.size _⟩

set_option maxRecDepth 100000 in
set_option maxHeartbeats 4000000 in
theorem clockInverse_loop0 (o d t s A L0 H0 L H : Int) (w : World) (h1 : shN o d t = A ∧ shE o d t = 0) (h0 : whL o d A = L0 ∧ whH o d A = H0 ∧ whE o d A = 0) (l0 : L0 ≤ t) (l1 : t ≤ H0) (h3 : whL o d s = L ∧ whH o d s = H ∧ whE o d s = 0)
    (q1 : 0 ≤ L) (q2 : L ≤ H) (q3 : H ≤ L + 1) (q4 : H ≤ 10000000000000)
    (hr : Hid (∀ k, 0 ≤ k → k ≤ 10000000000000 → ∃ N, shN o d k = N ∧ shE o d k = 0 ∧ (L ≤ k → k ≤ H → N = s) ∧ ((k < L ∨ H < k) → (N == s) = false)))
    (hlo : Hid (∀ k, k < 0 → shN o d k = 0 ∧ shE o d k = 1)) (hhi : Hid (∀ k, 10000000000000 < k → shN o d k = 0 ∧ shE o d k = 1)) :
    Calls Try.prog 6 #[.agg #[.int .i64 o, .int .i64 d], .int .i64 t, .int .i64 s] w fun e w' => e = .returned (.bool true) ∧ Below w.heap.size w w' := by
  go_enter Try.func6, Try.ntmps6
  go_wp2_with fail
  refine (head_any _).mono ?_
  rintro e w1 ⟨rfl, hb⟩
  have oC : Own w1 w.heap.size [.int .i64 o, .int .i64 d] 23 := (own_at _ _ rfl).below hb
  have bel := belowTo ((Below.refl w.heap.size w).alloc (by simp) _) hb (by simp)
  clear hb 
  obtain ⟨cC0, cC1, fC, zC⟩ := own2 oC
  go_wp2_with fail
  refine (show_lit o d t A 0 _ h1).mono ?_
  rintro e w2 ⟨rfl, hb⟩
  replace oC := oC.below hb
  replace bel := belowTo bel hb (by exact bel.size)
  clear hb cC0 cC1 fC zC
  obtain ⟨cC0, cC1, fC, zC⟩ := own2 oC
  go_wp2_with fail
  refine (when_lit o d A L0 H0 0 _ h0).mono ?_
  rintro e w3 ⟨rfl, hb⟩
  replace oC := oC.below hb
  replace bel := belowTo bel hb (by exact bel.size)
  clear hb cC0 cC1 fC zC
  obtain ⟨cC0, cC1, fC, zC⟩ := own2 oC
  go_wp2_with fail
  refine (when_lit o d s L H 0 _ h3).mono ?_
  rintro e w4 ⟨rfl, hb⟩
  replace oC := (oC.alloc _).below hb
  replace bel := belowTo (bel.alloc (by have := bel.size; simp; omega) _) hb (by have := bel.size; simp; omega)
  clear hb cC0 cC1 fC zC
  obtain ⟨cC0, cC1, fC, zC⟩ := own2 oC
  have oX : Own (w4.alloc (Obj.cells #[Value.int IntKind.i64 L, Value.int IntKind.i64 H] 29)) w4.heap.size [.int .i64 L, .int .i64 H] 29 := own_at _ _ rfl
  replace oC := oC.alloc (Obj.cells #[Value.int IntKind.i64 L, Value.int IntKind.i64 H] 29)
  replace bel := bel.alloc bel.size (Obj.cells #[Value.int IntKind.i64 L, Value.int IntKind.i64 H] 29)
  go_wp2
  go_loopw [7, 14] (fun up i wr => ∃ k : Int, i = .int .i64 k ∧ up = .bool true ∧ L - 1 ≤ k ∧ k ≤ H + 2 ∧ Own wr w.heap.size [.int .i64 o, .int .i64 d] 23 ∧ Own wr w4.heap.size [.int .i64 L, .int .i64 H] 29 ∧ Below w.heap.size w wr)
    (fun _ i _ => (H + 2 - intOf i).toNat)
  case atStart => exact ⟨L - 1, rfl, rfl, by omega, by omega, oC, oX, bel⟩
  case round =>
    clear oC oX bel cC0 cC1 fC zC
    obtain ⟨k, rfl, rfl, k1, k2, oC, oX, hbel⟩ := hrel
    obtain ⟨cC0, cC1, fC, zC⟩ := own2 oC
    obtain ⟨cX0, cX1, fX, zX⟩ := own2 oX
    by_cases hk : k ≤ H + 1
    · by_cases c1 : k < 0
      · have hs := hlo.out k c1
        go_wp2_with fail
        refine (show_lit o d k _ _ _ hs).mono ?_
        rintro e w6 ⟨rfl, hb⟩
        replace oC := oC.below hb
        replace oX := oX.below hb
        replace hbel := belowTo hbel hb hbel.size
        clear hb cC0 cC1 fC zC cX0 cX1 fX zX
        obtain ⟨cC0, cC1, fC, zC⟩ := own2 oC
        obtain ⟨cX0, cX1, fX, zX⟩ := own2 oX
        go_wp2
        go_roundw
        case rel => exact ⟨k + 1, rfl, by first | rfl | (simp; omega), by omega, by omega, oC, oX, hbel⟩
        case measure => simp [intOf]; omega
      · by_cases c2 : 10000000000000 < k
        · have hs := hhi.out k c2
          go_wp2_with fail
          refine (show_lit o d k _ _ _ hs).mono ?_
          rintro e w6 ⟨rfl, hb⟩
          replace oC := oC.below hb
          replace oX := oX.below hb
          replace hbel := belowTo hbel hb hbel.size
          clear hb cC0 cC1 fC zC cX0 cX1 fX zX
          obtain ⟨cC0, cC1, fC, zC⟩ := own2 oC
          obtain ⟨cX0, cX1, fX, zX⟩ := own2 oX
          go_wp2
          go_roundw
          case rel => exact ⟨k + 1, rfl, by first | rfl | (simp; omega), by omega, by omega, oC, oX, hbel⟩
          case measure => simp [intOf]; omega
        · obtain ⟨N, n1, n2, n3, n4⟩ := hr.out k (by omega) (by omega)
          by_cases c3 : L ≤ k ∧ k ≤ H
          · obtain ⟨c4, c5⟩ := c3
            have hs : shN o d k = s ∧ shE o d k = 0 := ⟨n1.trans (n3 c4 c5), n2⟩
            clear n1 n2 n3 n4
            go_wp2_with fail
            refine (show_lit o d k s 0 _ hs).mono ?_
            rintro e w6 ⟨rfl, hb⟩
            replace oC := oC.below hb
            replace oX := oX.below hb
            replace hbel := belowTo hbel hb hbel.size
            clear hb cC0 cC1 fC zC cX0 cX1 fX zX
            obtain ⟨cC0, cC1, fC, zC⟩ := own2 oC
            obtain ⟨cX0, cX1, fX, zX⟩ := own2 oX
            go_wp2
            go_roundw
            case rel => exact ⟨k + 1, rfl, by first | rfl | (simp; omega), by omega, by omega, oC, oX, hbel⟩
            case measure => simp [intOf]; omega
          · have hN := n4 (by omega)
            have hs : shN o d k = N ∧ shE o d k = 0 := ⟨n1, n2⟩
            clear n1 n2 n3 n4
            by_cases c4 : k < L
            · clear c3
              go_wp2_with fail
              refine (show_lit o d k N 0 _ hs).mono ?_
              rintro e w6 ⟨rfl, hb⟩
              replace oC := oC.below hb
              replace oX := oX.below hb
              replace hbel := belowTo hbel hb hbel.size
              clear hb cC0 cC1 fC zC cX0 cX1 fX zX
              obtain ⟨cC0, cC1, fC, zC⟩ := own2 oC
              obtain ⟨cX0, cX1, fX, zX⟩ := own2 oX
              go_wp2
              go_roundw
              case rel => exact ⟨k + 1, rfl, by first | rfl | (simp; omega), by omega, by omega, oC, oX, hbel⟩
              case measure => simp [intOf]; omega
            · have c5 : H < k := by omega
              clear c3
              go_wp2_with fail
              refine (show_lit o d k N 0 _ hs).mono ?_
              rintro e w6 ⟨rfl, hb⟩
              replace oC := oC.below hb
              replace oX := oX.below hb
              replace hbel := belowTo hbel hb hbel.size
              clear hb cC0 cC1 fC zC cX0 cX1 fX zX
              obtain ⟨cC0, cC1, fC, zC⟩ := own2 oC
              obtain ⟨cX0, cX1, fX, zX⟩ := own2 oX
              go_wp2
              go_roundw
              case rel => exact ⟨k + 1, rfl, by first | rfl | (simp; omega), by omega, by omega, oC, oX, hbel⟩
              case measure => simp [intOf]; omega
    · go_wp2
      go_ret
      exact ⟨rfl, hbel⟩

set_option maxRecDepth 100000 in
set_option maxHeartbeats 4000000 in
theorem clockInverse_loop1 (o d t s A L H : Int) (w : World) (h1 : shN o d t = A ∧ shE o d t = 1) (h3 : whL o d s = L ∧ whH o d s = H ∧ whE o d s = 0)
    (q1 : 0 ≤ L) (q2 : L ≤ H) (q3 : H ≤ L + 1) (q4 : H ≤ 10000000000000)
    (hr : Hid (∀ k, 0 ≤ k → k ≤ 10000000000000 → ∃ N, shN o d k = N ∧ shE o d k = 0 ∧ (L ≤ k → k ≤ H → N = s) ∧ ((k < L ∨ H < k) → (N == s) = false)))
    (hlo : Hid (∀ k, k < 0 → shN o d k = 0 ∧ shE o d k = 1)) (hhi : Hid (∀ k, 10000000000000 < k → shN o d k = 0 ∧ shE o d k = 1)) :
    Calls Try.prog 6 #[.agg #[.int .i64 o, .int .i64 d], .int .i64 t, .int .i64 s] w fun e w' => e = .returned (.bool true) ∧ Below w.heap.size w w' := by
  go_enter Try.func6, Try.ntmps6
  go_wp2_with fail
  refine (head_any _).mono ?_
  rintro e w1 ⟨rfl, hb⟩
  have oC : Own w1 w.heap.size [.int .i64 o, .int .i64 d] 23 := (own_at _ _ rfl).below hb
  have bel := belowTo ((Below.refl w.heap.size w).alloc (by simp) _) hb (by simp)
  clear hb 
  obtain ⟨cC0, cC1, fC, zC⟩ := own2 oC
  go_wp2_with fail
  refine (show_lit o d t A 1 _ h1).mono ?_
  rintro e w2 ⟨rfl, hb⟩
  replace oC := oC.below hb
  replace bel := belowTo bel hb (by exact bel.size)
  clear hb cC0 cC1 fC zC
  obtain ⟨cC0, cC1, fC, zC⟩ := own2 oC
  go_wp2_with fail
  refine (when_lit o d s L H 0 _ h3).mono ?_
  rintro e w4 ⟨rfl, hb⟩
  replace oC := oC.below hb
  replace bel := belowTo bel hb (by exact bel.size)
  clear hb cC0 cC1 fC zC
  obtain ⟨cC0, cC1, fC, zC⟩ := own2 oC
  have oX : Own (w4.alloc (Obj.cells #[Value.int IntKind.i64 L, Value.int IntKind.i64 H] 29)) w4.heap.size [.int .i64 L, .int .i64 H] 29 := own_at _ _ rfl
  replace oC := oC.alloc (Obj.cells #[Value.int IntKind.i64 L, Value.int IntKind.i64 H] 29)
  replace bel := bel.alloc bel.size (Obj.cells #[Value.int IntKind.i64 L, Value.int IntKind.i64 H] 29)
  go_wp2
  go_loopw [7, 14] (fun up i wr => ∃ k : Int, i = .int .i64 k ∧ up = .bool true ∧ L - 1 ≤ k ∧ k ≤ H + 2 ∧ Own wr w.heap.size [.int .i64 o, .int .i64 d] 23 ∧ Own wr w4.heap.size [.int .i64 L, .int .i64 H] 29 ∧ Below w.heap.size w wr)
    (fun _ i _ => (H + 2 - intOf i).toNat)
  case atStart => exact ⟨L - 1, rfl, rfl, by omega, by omega, oC, oX, bel⟩
  case round =>
    clear oC oX bel cC0 cC1 fC zC
    obtain ⟨k, rfl, rfl, k1, k2, oC, oX, hbel⟩ := hrel
    obtain ⟨cC0, cC1, fC, zC⟩ := own2 oC
    obtain ⟨cX0, cX1, fX, zX⟩ := own2 oX
    by_cases hk : k ≤ H + 1
    · by_cases c1 : k < 0
      · have hs := hlo.out k c1
        go_wp2_with fail
        refine (show_lit o d k _ _ _ hs).mono ?_
        rintro e w6 ⟨rfl, hb⟩
        replace oC := oC.below hb
        replace oX := oX.below hb
        replace hbel := belowTo hbel hb hbel.size
        clear hb cC0 cC1 fC zC cX0 cX1 fX zX
        obtain ⟨cC0, cC1, fC, zC⟩ := own2 oC
        obtain ⟨cX0, cX1, fX, zX⟩ := own2 oX
        go_wp2
        go_roundw
        case rel => exact ⟨k + 1, rfl, by first | rfl | (simp; omega), by omega, by omega, oC, oX, hbel⟩
        case measure => simp [intOf]; omega
      · by_cases c2 : 10000000000000 < k
        · have hs := hhi.out k c2
          go_wp2_with fail
          refine (show_lit o d k _ _ _ hs).mono ?_
          rintro e w6 ⟨rfl, hb⟩
          replace oC := oC.below hb
          replace oX := oX.below hb
          replace hbel := belowTo hbel hb hbel.size
          clear hb cC0 cC1 fC zC cX0 cX1 fX zX
          obtain ⟨cC0, cC1, fC, zC⟩ := own2 oC
          obtain ⟨cX0, cX1, fX, zX⟩ := own2 oX
          go_wp2
          go_roundw
          case rel => exact ⟨k + 1, rfl, by first | rfl | (simp; omega), by omega, by omega, oC, oX, hbel⟩
          case measure => simp [intOf]; omega
        · obtain ⟨N, n1, n2, n3, n4⟩ := hr.out k (by omega) (by omega)
          by_cases c3 : L ≤ k ∧ k ≤ H
          · obtain ⟨c4, c5⟩ := c3
            have hs : shN o d k = s ∧ shE o d k = 0 := ⟨n1.trans (n3 c4 c5), n2⟩
            clear n1 n2 n3 n4
            go_wp2_with fail
            refine (show_lit o d k s 0 _ hs).mono ?_
            rintro e w6 ⟨rfl, hb⟩
            replace oC := oC.below hb
            replace oX := oX.below hb
            replace hbel := belowTo hbel hb hbel.size
            clear hb cC0 cC1 fC zC cX0 cX1 fX zX
            obtain ⟨cC0, cC1, fC, zC⟩ := own2 oC
            obtain ⟨cX0, cX1, fX, zX⟩ := own2 oX
            go_wp2
            go_roundw
            case rel => exact ⟨k + 1, rfl, by first | rfl | (simp; omega), by omega, by omega, oC, oX, hbel⟩
            case measure => simp [intOf]; omega
          · have hN := n4 (by omega)
            have hs : shN o d k = N ∧ shE o d k = 0 := ⟨n1, n2⟩
            clear n1 n2 n3 n4
            by_cases c4 : k < L
            · clear c3
              go_wp2_with fail
              refine (show_lit o d k N 0 _ hs).mono ?_
              rintro e w6 ⟨rfl, hb⟩
              replace oC := oC.below hb
              replace oX := oX.below hb
              replace hbel := belowTo hbel hb hbel.size
              clear hb cC0 cC1 fC zC cX0 cX1 fX zX
              obtain ⟨cC0, cC1, fC, zC⟩ := own2 oC
              obtain ⟨cX0, cX1, fX, zX⟩ := own2 oX
              go_wp2
              go_roundw
              case rel => exact ⟨k + 1, rfl, by first | rfl | (simp; omega), by omega, by omega, oC, oX, hbel⟩
              case measure => simp [intOf]; omega
            · have c5 : H < k := by omega
              clear c3
              go_wp2_with fail
              refine (show_lit o d k N 0 _ hs).mono ?_
              rintro e w6 ⟨rfl, hb⟩
              replace oC := oC.below hb
              replace oX := oX.below hb
              replace hbel := belowTo hbel hb hbel.size
              clear hb cC0 cC1 fC zC cX0 cX1 fX zX
              obtain ⟨cC0, cC1, fC, zC⟩ := own2 oC
              obtain ⟨cX0, cX1, fX, zX⟩ := own2 oX
              go_wp2
              go_roundw
              case rel => exact ⟨k + 1, rfl, by first | rfl | (simp; omega), by omega, by omega, oC, oX, hbel⟩
              case measure => simp [intOf]; omega
    · go_wp2
      go_ret
      exact ⟨rfl, hbel⟩

theorem inverse_rows {o d s : Int} (h : okW o d s = true) (k : Int) (k0 : 0 ≤ k) (k1 : k ≤ 10000000000000) :
    ∃ N, shN o d k = N ∧ shE o d k = 0 ∧ (lst o d s ≤ k → k ≤ lst o d (s + 1) - 1 → N = s) ∧ ((k < lst o d s ∨ lst o d (s + 1) - 1 < k) → (N == s) = false) := by
  obtain ⟨p1, p2, p3, p4, p5⟩ := whs h
  have hk := okS_mk (okW_vld h) k0 k1
  obtain ⟨e1, e2⟩ := sh_yes hk
  refine ⟨_, e2, e1, fun a b => (p5 k k0 k1).2 ⟨a, b⟩, fun hc => ?_⟩
  have : ¬ atI o d k = s := fun hh => by have := (p5 k k0 k1).1 hh; omega
  simpa using this

theorem clockInverse_walk (o d t s : Int) (w : World) (_bo : IntKind.i64.has o) (_bd : IntKind.i64.has d) (_bt : IntKind.i64.has t) (_bs : IntKind.i64.has s) :
    Calls Try.prog 6 #[.agg #[.int .i64 o, .int .i64 d], .int .i64 t, .int .i64 s] w fun e w' => e = .returned (.bool true) ∧ Below w.heap.size w w' := by
  cases ht : okS o d t with
  | true =>
    have hv := okS_vld ht
    obtain ⟨e1, e2⟩ := sh_yes ht
    obtain ⟨a1, a2, a3⟩ := okW_at ht
    obtain ⟨f1, f2, f3⟩ := wh_yes a1
    cases hs : okW o d s with
    | true =>
      obtain ⟨g1, g2, g3⟩ := wh_yes hs
      obtain ⟨p1, p2, p3, p4, p5⟩ := whs hs
      exact clockInverse_loop0 o d t s _ _ _ _ _ w ⟨e2, e1⟩ ⟨f2, f3, f1⟩ a2 a3 ⟨g2, g3, g1⟩ p1 p2 p3 p4 (inverse_rows hs) (fun k hk => ⟨(sh_no (okS_lt hk)).2, (sh_no (okS_lt hk)).1⟩) (fun k hk => ⟨(sh_no (okS_gt hk)).2, (sh_no (okS_gt hk)).1⟩)
    | false =>
      obtain ⟨g1, g2, g3⟩ := wh_none hv hs
      obtain ⟨_, b1, b2⟩ := okS_iff.1 ht
      exact clockInverse_none0 o d t s _ _ _ w ⟨e2, e1⟩ ⟨f2, f3, f1⟩ a2 a3 ⟨g2, g3, g1⟩ (by simpa using whs_none hv hs b1 b2)
  | false =>
    obtain ⟨e1, e2⟩ := sh_no ht
    cases hv : vldB o d with
    | false =>
      obtain ⟨g1, g2, g3⟩ := wh_arg (s := s) hv
      exact clockInverse_arg1 o d t s _ w ⟨e2, e1⟩ ⟨g2, g3, g1⟩
    | true =>
      cases hs : okW o d s with
      | true =>
        obtain ⟨g1, g2, g3⟩ := wh_yes hs
        obtain ⟨p1, p2, p3, p4, p5⟩ := whs hs
        exact clockInverse_loop1 o d t s _ _ _ w ⟨e2, e1⟩ ⟨g2, g3, g1⟩ p1 p2 p3 p4 (inverse_rows hs) (fun k hk => ⟨(sh_no (okS_lt hk)).2, (sh_no (okS_lt hk)).1⟩) (fun k hk => ⟨(sh_no (okS_gt hk)).2, (sh_no (okS_gt hk)).1⟩)
      | false =>
        obtain ⟨g1, g2, g3⟩ := wh_none hv hs
        exact clockInverse_none1 o d t s _ w ⟨e2, e1⟩ ⟨g2, g3, g1⟩

end Go.Proofs.Ytkhplghncbgdfaa
