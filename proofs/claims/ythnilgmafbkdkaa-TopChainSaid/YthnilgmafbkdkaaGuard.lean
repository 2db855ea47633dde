/- The contracts of package guard: check, ownTime, begins. -/
import Derived.Test.YthnilgmafbkdkaaPlain10
import Derived.Test.YthnilgmafbkdkaaTime
import Derived.Test.YthnilgmafbkdkaaClockLit
import Derived.Test.YthnilgmafbkdkaaClock3
import Derived.Defers
import Derived.Recover
namespace Go.Proofs.Ythnilgmafbkdkaa
open Go.RowKit

/-- What a panic with one of the program's own errors looks like. -/
def pan (E : Int) : Ending := .panicked [{ v := .iface 29 (.int .i64 E), recovered := false }]

theorem own9 {w : World} {b : Nat} {t : TypeId} {x0 x1 x2 x3 x4 x5 x6 x7 x8 : Value} (h : Own w b [x0, x1, x2, x3, x4, x5, x6, x7, x8] t) :
    w.cell? ⟨b, 0, none⟩ = some x0 ∧ w.cell? ⟨b, 1, none⟩ = some x1 ∧ w.cell? ⟨b, 2, none⟩ = some x2 ∧ w.cell? ⟨b, 3, none⟩ = some x3 ∧ w.cell? ⟨b, 4, none⟩ = some x4 ∧ w.cell? ⟨b, 5, none⟩ = some x5 ∧ w.cell? ⟨b, 6, none⟩ = some x6 ∧ w.cell? ⟨b, 7, none⟩ = some x7 ∧ w.cell? ⟨b, 8, none⟩ = some x8 ∧
    (∀ o, w.frozen? ⟨b, o, none⟩ = false) ∧ b < w.heap.size := ⟨h.cell rfl, h.cell rfl, h.cell rfl, h.cell rfl, h.cell rfl, h.cell rfl, h.cell rfl, h.cell rfl, h.cell rfl, h.frozen, h.lt⟩

theorem when_lit (o d s L H E : Int) (w : World) (k : whL o d s = L ∧ whH o d s = H ∧ whE o d s = E) :
    Calls Try.prog 42 #[.agg #[.int .i64 o, .int .i64 d], .int .i64 s] w
      fun e w' => e = .returned (.tuple #[.agg #[.int .i64 L, .int .i64 H], .int .i64 E]) ∧ Below w.heap.size w w' := by
  have := when_any o d s w
  rwa [k.1, k.2.1, k.2.2] at this
theorem cvalid_lit (o d : Int) (r : Bool) (w : World) (k : vldB o d = r) :
    Calls Try.prog 22 #[.agg #[.int .i64 o, .int .i64 d]] w fun e w' => e = .returned (.bool r) ∧ Below w.heap.size w w' := by
  have := valid_any o d w
  rwa [k] at this

set_option maxHeartbeats 400000 in
theorem check_ok (w : World) : Calls Try.prog 30 #[.int .i64 0] w fun e w' => e = .returned (.tuple #[]) ∧ w = w' := by
  go_enter Try.func30, Try.ntmps30
  go_wp2
  go_end0
  exact ⟨rfl, rfl⟩

set_option maxHeartbeats 400000 in
theorem check_no (E : Int) (w : World) (h : (E == 0) = false) : Calls Try.prog 30 #[.int .i64 E] w fun e w' => e = pan E ∧ w = w' := by
  go_enter Try.func30, Try.ntmps30
  go_wp2
  exact ⟨rfl, rfl, rfl⟩

set_option linter.unusedVariables false in
set_option maxRecDepth 100000 in
set_option maxHeartbeats 2000000 in
theorem ownTime_on (sy : Bool) (l h a k src he o d asn : Int) (w : World) (h1 : 0 ≤ asn) (h2 : asn < 1000000000) (h3 : 0 < k) (h4 : -20000000000000 ≤ l) (h5 : l ≤ 20000000000000) (h6 : -20000000000000 ≤ h) (h7 : h ≤ 20000000000000) :
    Calls Try.prog 29 #[.agg #[.bool sy, .int .i64 l, .int .i64 h, .int .i64 a, .int .i64 k, .int .i64 src, .int .i64 he, .int .i64 o, .int .i64 d], .int .i64 asn] w
      fun e w' => e = .returned (.int .i64 (asn * 10000 - (l + h) / 2)) ∧ Below w.heap.size w w' := by
  go_enter Try.func29, Try.ntmps29
  go_wp2
  go_ret
  exact ⟨rfl, belowNew w _⟩

set_option linter.unusedVariables false in
set_option maxRecDepth 100000 in
set_option maxHeartbeats 2000000 in
theorem ownTime_off (sy : Bool) (l h a k src he o d asn : Int) (w : World) (h1 : 0 ≤ asn) (h2 : asn < 1000000000) (h3 : k ≤ 0) :
    Calls Try.prog 29 #[.agg #[.bool sy, .int .i64 l, .int .i64 h, .int .i64 a, .int .i64 k, .int .i64 src, .int .i64 he, .int .i64 o, .int .i64 d], .int .i64 asn] w
      fun e w' => e = .returned (.int .i64 (asn * 10000)) ∧ Below w.heap.size w w' := by
  go_enter Try.func29, Try.ntmps29
  go_wp2
  go_ret
  exact ⟨rfl, belowNew w _⟩

theorem ownTime_lit (sy : Bool) (l h a k src he o d asn O : Int) (w : World) (h1 : 0 ≤ asn) (h2 : asn < 1000000000) (h3 : k ≤ 0 ∨ (-20000000000000 ≤ l ∧ l ≤ 20000000000000 ∧ -20000000000000 ≤ h ∧ h ≤ 20000000000000)) (hO : ownT k l h asn = O) :
    Calls Try.prog 29 #[.agg #[.bool sy, .int .i64 l, .int .i64 h, .int .i64 a, .int .i64 k, .int .i64 src, .int .i64 he, .int .i64 o, .int .i64 d], .int .i64 asn] w
      fun e w' => e = .returned (.int .i64 O) ∧ Below w.heap.size w w' := by
  subst hO
  unfold ownT
  split
  · rcases h3 with h3 | ⟨q1, q2, q3, q4⟩
    · omega
    · exact ownTime_on sy l h a k src he o d asn w h1 h2 (by assumption) q1 q2 q3 q4
  · exact ownTime_off sy l h a k src he o d asn w h1 h2 (by omega)

set_option linter.unusedVariables false in
set_option maxRecDepth 100000 in
set_option maxHeartbeats 2000000 in
theorem begins_zero (sy : Bool) (l h a k src he o d s z : Int) (w : World) (hs : shN o d 0 = z ∧ shE o d 0 = 0) (k1 : s ≤ z) :
    Calls Try.prog 31 #[.agg #[.bool sy, .int .i64 l, .int .i64 h, .int .i64 a, .int .i64 k, .int .i64 src, .int .i64 he, .int .i64 o, .int .i64 d], .int .i64 s] w
      fun e w' => e = .returned (.int .i64 0) ∧ Below w.heap.size w w' := by
  have Hhs := Lib.hid hs
  clear hs
  go_enter Try.func31, Try.ntmps31
  go_wp2_with fail
  refine (show_lit o d 0 z 0 _ Hhs.out).mono ?_
  rintro e w1 ⟨rfl, hb⟩
  have oN : Own w1 w.heap.size [.bool sy, .int .i64 l, .int .i64 h, .int .i64 a, .int .i64 k, .int .i64 src, .int .i64 he, .int .i64 o, .int .i64 d] 58 := (own_at _ _ rfl).below hb
  have bel := belowTo ((Below.refl w.heap.size w).alloc (by simp) _) hb (by simp)
  clear hb 
  obtain ⟨cN0, cN1, cN2, cN3, cN4, cN5, cN6, cN7, cN8, fN, zN⟩ := own9 oN
  go_wp2_with fail
  refine (check_ok _).mono ?_
  rintro e _ ⟨rfl, rfl⟩
  go_wp2
  go_ret
  exact ⟨rfl, bel⟩

set_option linter.unusedVariables false in
set_option maxRecDepth 100000 in
set_option maxHeartbeats 2000000 in
theorem begins_hit (sy : Bool) (l h a k src he o d s z L H : Int) (w : World) (hs : shN o d 0 = z ∧ shE o d 0 = 0) (k1 : z < s) (hw : whL o d s = L ∧ whH o d s = H ∧ whE o d s = 0) :
    Calls Try.prog 31 #[.agg #[.bool sy, .int .i64 l, .int .i64 h, .int .i64 a, .int .i64 k, .int .i64 src, .int .i64 he, .int .i64 o, .int .i64 d], .int .i64 s] w
      fun e w' => e = .returned (.int .i64 L) ∧ Below w.heap.size w w' := by
  have Hhs := Lib.hid hs
  clear hs
  have Hhw := Lib.hid hw
  clear hw
  go_enter Try.func31, Try.ntmps31
  go_wp2_with fail
  refine (show_lit o d 0 z 0 _ Hhs.out).mono ?_
  rintro e w1 ⟨rfl, hb⟩
  have oN : Own w1 w.heap.size [.bool sy, .int .i64 l, .int .i64 h, .int .i64 a, .int .i64 k, .int .i64 src, .int .i64 he, .int .i64 o, .int .i64 d] 58 := (own_at _ _ rfl).below hb
  have bel := belowTo ((Below.refl w.heap.size w).alloc (by simp) _) hb (by simp)
  clear hb 
  obtain ⟨cN0, cN1, cN2, cN3, cN4, cN5, cN6, cN7, cN8, fN, zN⟩ := own9 oN
  go_wp2_with fail
  refine (check_ok _).mono ?_
  rintro e _ ⟨rfl, rfl⟩
  go_wp2_with fail
  refine (when_lit o d s L H 0 _ Hhw.out).mono ?_
  rintro e w2 ⟨rfl, hb⟩
  replace oN := oN.below hb
  replace bel := belowTo bel hb (by exact bel.size)
  clear hb cN0 cN1 cN2 cN3 cN4 cN5 cN6 cN7 cN8 fN zN
  obtain ⟨cN0, cN1, cN2, cN3, cN4, cN5, cN6, cN7, cN8, fN, zN⟩ := own9 oN
  go_wp2
  go_ret
  exact ⟨rfl, (by repeat (first | exact bel | refine Below.alloc ?_ (by have := bel.size; simp; omega) _))⟩

set_option linter.unusedVariables false in
set_option maxRecDepth 100000 in
set_option maxHeartbeats 2000000 in
theorem begins_next (sy : Bool) (l h a k src he o d s z L H : Int) (w : World) (hs : shN o d 0 = z ∧ shE o d 0 = 0) (k1 : z < s) (b1 : s ≤ 30000000000000) (b2 : -30000000000000 ≤ s) (hw : whL o d s = 0 ∧ whH o d s = 0 ∧ whE o d s = 4) (hx : whL o d (s + 1) = L ∧ whH o d (s + 1) = H ∧ whE o d (s + 1) = 0) :
    Calls Try.prog 31 #[.agg #[.bool sy, .int .i64 l, .int .i64 h, .int .i64 a, .int .i64 k, .int .i64 src, .int .i64 he, .int .i64 o, .int .i64 d], .int .i64 s] w
      fun e w' => e = .returned (.int .i64 L) ∧ Below w.heap.size w w' := by
  have Hhs := Lib.hid hs
  clear hs
  have Hhw := Lib.hid hw
  clear hw
  have Hhx := Lib.hid hx
  clear hx
  go_enter Try.func31, Try.ntmps31
  go_wp2_with fail
  refine (show_lit o d 0 z 0 _ Hhs.out).mono ?_
  rintro e w1 ⟨rfl, hb⟩
  have oN : Own w1 w.heap.size [.bool sy, .int .i64 l, .int .i64 h, .int .i64 a, .int .i64 k, .int .i64 src, .int .i64 he, .int .i64 o, .int .i64 d] 58 := (own_at _ _ rfl).below hb
  have bel := belowTo ((Below.refl w.heap.size w).alloc (by simp) _) hb (by simp)
  clear hb 
  obtain ⟨cN0, cN1, cN2, cN3, cN4, cN5, cN6, cN7, cN8, fN, zN⟩ := own9 oN
  go_wp2_with fail
  refine (check_ok _).mono ?_
  rintro e _ ⟨rfl, rfl⟩
  go_wp2_with fail
  refine (when_lit o d s 0 0 4 _ Hhw.out).mono ?_
  rintro e w2 ⟨rfl, hb⟩
  replace oN := oN.below hb
  replace bel := belowTo bel hb (by exact bel.size)
  clear hb cN0 cN1 cN2 cN3 cN4 cN5 cN6 cN7 cN8 fN zN
  obtain ⟨cN0, cN1, cN2, cN3, cN4, cN5, cN6, cN7, cN8, fN, zN⟩ := own9 oN
  have kX := bel.size
  go_wp2_with fail
  refine (when_lit o d (s + 1) L H 0 _ Hhx.out).mono ?_
  rintro e w3 ⟨rfl, hb⟩
  replace oN := (oN.alloc _).below hb
  have oR : Own w3 w2.heap.size [.int .i64 0, .int .i64 0] 62 := (own_at _ _ rfl).below hb
  replace bel := belowTo (bel.alloc (by have := bel.size; simp; omega) _) hb (by have := bel.size; simp; omega)
  clear hb cN0 cN1 cN2 cN3 cN4 cN5 cN6 cN7 cN8 fN zN
  obtain ⟨cN0, cN1, cN2, cN3, cN4, cN5, cN6, cN7, cN8, fN, zN⟩ := own9 oN
  obtain ⟨cR0, cR1, fR, zR⟩ := own2 oR
  go_wp2
  go_ret
  exact ⟨rfl, (by repeat (first | exact bel | refine belowSet ?_ _ _ _ (by have := bel.size; omega) | refine Below.alloc ?_ (by have := bel.size; simp; omega) _))⟩

set_option linter.unusedVariables false in
set_option maxRecDepth 100000 in
set_option maxHeartbeats 2000000 in
theorem begins_none (sy : Bool) (l h a k src he o d s z : Int) (w : World) (hs : shN o d 0 = z ∧ shE o d 0 = 0) (k1 : z < s) (b1 : s ≤ 30000000000000) (b2 : -30000000000000 ≤ s) (hw : whL o d s = 0 ∧ whH o d s = 0 ∧ whE o d s = 4) (hx : whL o d (s + 1) = 0 ∧ whH o d (s + 1) = 0 ∧ whE o d (s + 1) = 4) :
    Calls Try.prog 31 #[.agg #[.bool sy, .int .i64 l, .int .i64 h, .int .i64 a, .int .i64 k, .int .i64 src, .int .i64 he, .int .i64 o, .int .i64 d], .int .i64 s] w
      fun e w' => e = pan 3 ∧ Below w.heap.size w w' := by
  have Hhs := Lib.hid hs
  clear hs
  have Hhw := Lib.hid hw
  clear hw
  have Hhx := Lib.hid hx
  clear hx
  go_enter Try.func31, Try.ntmps31
  go_wp2_with fail
  refine (show_lit o d 0 z 0 _ Hhs.out).mono ?_
  rintro e w1 ⟨rfl, hb⟩
  have oN : Own w1 w.heap.size [.bool sy, .int .i64 l, .int .i64 h, .int .i64 a, .int .i64 k, .int .i64 src, .int .i64 he, .int .i64 o, .int .i64 d] 58 := (own_at _ _ rfl).below hb
  have bel := belowTo ((Below.refl w.heap.size w).alloc (by simp) _) hb (by simp)
  clear hb 
  obtain ⟨cN0, cN1, cN2, cN3, cN4, cN5, cN6, cN7, cN8, fN, zN⟩ := own9 oN
  go_wp2_with fail
  refine (check_ok _).mono ?_
  rintro e _ ⟨rfl, rfl⟩
  go_wp2_with fail
  refine (when_lit o d s 0 0 4 _ Hhw.out).mono ?_
  rintro e w2 ⟨rfl, hb⟩
  replace oN := oN.below hb
  replace bel := belowTo bel hb (by exact bel.size)
  clear hb cN0 cN1 cN2 cN3 cN4 cN5 cN6 cN7 cN8 fN zN
  obtain ⟨cN0, cN1, cN2, cN3, cN4, cN5, cN6, cN7, cN8, fN, zN⟩ := own9 oN
  have kX := bel.size
  go_wp2_with fail
  refine (when_lit o d (s + 1) 0 0 4 _ Hhx.out).mono ?_
  rintro e w3 ⟨rfl, hb⟩
  replace oN := (oN.alloc _).below hb
  have oR : Own w3 w2.heap.size [.int .i64 0, .int .i64 0] 62 := (own_at _ _ rfl).below hb
  replace bel := belowTo (bel.alloc (by have := bel.size; simp; omega) _) hb (by have := bel.size; simp; omega)
  clear hb cN0 cN1 cN2 cN3 cN4 cN5 cN6 cN7 cN8 fN zN
  obtain ⟨cN0, cN1, cN2, cN3, cN4, cN5, cN6, cN7, cN8, fN, zN⟩ := own9 oN
  obtain ⟨cR0, cR1, fR, zR⟩ := own2 oR
  go_wp2
  exact ⟨rfl, rfl, (by repeat (first | exact bel | refine belowSet ?_ _ _ _ (by have := bel.size; omega) | refine Below.alloc ?_ (by have := bel.size; simp; omega) _))⟩

theorem begins_ok (sy : Bool) (l h a k src he o d s L : Int) (w : World) (hv : vldB o d = true) (b1 : s ≤ 30000000000000) (b2 : -30000000000000 ≤ s) (hl : lst o d s = L) (h1 : L ≤ 10000000000000) :
    Calls Try.prog 31 #[.agg #[.bool sy, .int .i64 l, .int .i64 h, .int .i64 a, .int .i64 k, .int .i64 src, .int .i64 he, .int .i64 o, .int .i64 d], .int .i64 s] w
      fun e w' => e = .returned (.int .i64 L) ∧ Below w.heap.size w w' := by
  subst hl
  have s0 := sh_yes (okS_mk hv (Int.le_refl 0) (by omega))
  have g3 := (vld_out hv).2.2.1
  by_cases q : s ≤ atI o d 0
  · rw [lst_zero g3 q]
    exact begins_zero sy l h a k src he o d s _ w ⟨s0.2, s0.1⟩ q
  · cases r : okW o d s with
    | true =>
      obtain ⟨e1, e2, e3⟩ := wh_yes r
      exact begins_hit sy l h a k src he o d s _ _ _ w ⟨s0.2, s0.1⟩ (by omega) ⟨e2, rfl, e1⟩
    | false =>
      obtain ⟨e1, e2, e3⟩ := wh_none hv r
      cases r1 : okW o d (s + 1) with
      | true =>
        obtain ⟨f1, f2, f3⟩ := wh_yes r1
        rw [← lst_next hv r r1]
        exact begins_next sy l h a k src he o d s _ _ _ w ⟨s0.2, s0.1⟩ (by omega) b1 b2 ⟨e2, e3, e1⟩ ⟨f2, rfl, f1⟩
      | false =>
        have := lst_none hv (by omega) r r1
        omega

theorem begins_no (sy : Bool) (l h a k src he o d s : Int) (w : World) (hv : vldB o d = true) (b1 : s ≤ 30000000000000) (b2 : -30000000000000 ≤ s) (h1 : 10000000000000 < lst o d s) :
    Calls Try.prog 31 #[.agg #[.bool sy, .int .i64 l, .int .i64 h, .int .i64 a, .int .i64 k, .int .i64 src, .int .i64 he, .int .i64 o, .int .i64 d], .int .i64 s] w
      fun e w' => e = pan 3 ∧ Below w.heap.size w w' := by
  have s0 := sh_yes (okS_mk hv (Int.le_refl 0) (by omega))
  have g3 := (vld_out hv).2.2.1
  by_cases q : s ≤ atI o d 0
  · rw [lst_zero g3 q] at h1; omega
  · cases r : okW o d s with
    | true => have := (okW_iff hv).1 r; omega
    | false =>
      obtain ⟨e1, e2, e3⟩ := wh_none hv r
      cases r1 : okW o d (s + 1) with
      | true => have := lst_next hv r r1; have := (okW_iff hv).1 r1; omega
      | false =>
        obtain ⟨f1, f2, f3⟩ := wh_none hv r1
        exact begins_none sy l h a k src he o d s _ w ⟨s0.2, s0.1⟩ (by omega) b1 b2 ⟨e2, e3, e1⟩ ⟨f2, f3, f1⟩

end Go.Proofs.Ythnilgmafbkdkaa
