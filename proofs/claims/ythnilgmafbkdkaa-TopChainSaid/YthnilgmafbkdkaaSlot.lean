/- The contract of guard's slot: its ways. -/
import Derived.Test.YthnilgmafbkdkaaGuard
import Derived.Test.YthnilgmafbkdkaaHear
import Derived.Test.YthnilgmafbkdkaaTime3
namespace Go.Proofs.Ythnilgmafbkdkaa
open Go.RowKit

/-- What hearing returns, whatever state it leads to. -/
def HearSome (E : Int) (w : World) (e : Ending) (w' : World) : Prop :=
  ∃ (y : Bool) (x1 x2 x3 x4 x5 x6 : Int), e = .returned (.tuple #[.agg #[.bool y, .int .i64 x1, .int .i64 x2, .int .i64 x3, .int .i64 x4, .int .i64 x5, .int .i64 x6], .int .i64 E]) ∧ Below w.heap.size w w'
theorem hear_some (sy : Bool) (l h a k src he f p b s c E : Int) (w : World) (hE : hrE sy l h a k src he f p b s c = E) :
    Calls Try.prog 13 #[.agg #[.bool sy, .int .i64 l, .int .i64 h, .int .i64 a, .int .i64 k, .int .i64 src, .int .i64 he], .agg #[.int .i64 f, .int .i64 p, .int .i64 b, .int .i64 s, .int .i64 c]] w (HearSome E w) := by
  cases hC : hrC sy l h a k src he f p b s c with
  | false => exact (hear_same sy l h a k src he f p b s c E w hE hC).mono fun e w' h => ⟨_, _, _, _, _, _, _, h⟩
  | true =>
    have : E = 0 := by rw [← hE]; simp only [hrC, Bool.and_eq_true, beq_iff_eq] at hC; exact hC.2
    subst this
    exact (hear_new sy l h a k src he f p b s c _ _ _ w hC ⟨rfl, rfl, rfl⟩).mono fun e w' h => ⟨_, _, _, _, _, _, _, h⟩

theorem mc_one {xl xh xa yl yh ya : Int} : mcE xl xh xa yl yh ya ≠ 1 := by unfold mcE; (repeat' split) <;> omega
/-- An empty hint: an argument's error tells whether the state is valid. -/
theorem hear_empty {sy : Bool} {l h a k src he : Int} (hv : vldT sy l h a k src he = true) : (hrE sy l h a k src he 0 0 0 0 0 == 1) = false := by
  have hV : hrV sy l h a k src he 0 0 0 0 0 = true := by simp [hrV, hv, vldH]
  have h2 : heL 0 0 0 = 0 ∧ heH 0 0 0 = 0 ∧ heA 0 0 0 = 0 := by decide
  simp only [hrE, hV, h2.1, h2.2.1, h2.2.2]
  cases hk : tkB sy k src 0 0 with
  | false => simp
  | true =>
    cases sy with
    | false => simp
    | true =>
      have hk0 : k ≠ 0 := by intro q; simp [tkB, q] at hk
      rcases (vldT_on hv rfl).2 with q | ⟨_, _, q⟩
      · exact absurd q hk0
      · have h0 : vldS 0 0 0 = true := by decide
        have := mc_one (xl := l) (xh := h) (xa := a) (yl := 0) (yh := 0) (ya := 0)
        have := mc_one (xl := 0) (xh := 0) (xa := 0) (yl := l) (yh := h) (ya := a)
        simp only [mtE, q, h0]
        simp
        split <;> assumption
theorem hear_empty_no {sy : Bool} {l h a k src he : Int} (hv : vldT sy l h a k src he = false) : hrE sy l h a k src he 0 0 0 0 0 = 1 := by simp [hrE, hrV, hv]

set_option linter.unusedVariables false in
set_option maxRecDepth 100000 in
set_option maxHeartbeats 2000000 in
theorem slot_clock (sy : Bool) (l h a k src he o d asn : Int) (w : World) (hc : vldB o d = false) :
    Calls Try.prog 17 #[.agg #[.bool sy, .int .i64 l, .int .i64 h, .int .i64 a, .int .i64 k, .int .i64 src, .int .i64 he, .int .i64 o, .int .i64 d], .int .i64 asn] w
      fun e w' => e = pan 1 ∧ Below w.heap.size w w' := by
  have Hhc := Lib.hid hc
  clear hc
  go_enter Try.func17, Try.ntmps17
  go_wp2_with fail
  refine (cvalid_lit o d false _ Hhc.out).mono ?_
  rintro e w1 ⟨rfl, hb⟩
  have oN : Own w1 w.heap.size [.bool sy, .int .i64 l, .int .i64 h, .int .i64 a, .int .i64 k, .int .i64 src, .int .i64 he, .int .i64 o, .int .i64 d] 58 := (own_at _ _ rfl).below hb
  have bel := belowTo ((Below.refl w.heap.size w).alloc (by simp) _) hb (by simp)
  clear hb 
  obtain ⟨cN0, cN1, cN2, cN3, cN4, cN5, cN6, cN7, cN8, fN, zN⟩ := own9 oN
  go_wp2
  exact ⟨rfl, rfl, (by repeat (first | exact bel | refine belowSet ?_ _ _ _ (by have := bel.size; omega) | refine Below.alloc ?_ (by have := bel.size; simp; omega) _))⟩

set_option linter.unusedVariables false in
set_option maxRecDepth 100000 in
set_option maxHeartbeats 2000000 in
theorem slot_neg (sy : Bool) (l h a k src he o d asn : Int) (w : World) (hc : vldB o d = true) (h1 : asn < 0) :
    Calls Try.prog 17 #[.agg #[.bool sy, .int .i64 l, .int .i64 h, .int .i64 a, .int .i64 k, .int .i64 src, .int .i64 he, .int .i64 o, .int .i64 d], .int .i64 asn] w
      fun e w' => e = pan 1 ∧ Below w.heap.size w w' := by
  have Hhc := Lib.hid hc
  clear hc
  go_enter Try.func17, Try.ntmps17
  go_wp2_with fail
  refine (cvalid_lit o d true _ Hhc.out).mono ?_
  rintro e w1 ⟨rfl, hb⟩
  have oN : Own w1 w.heap.size [.bool sy, .int .i64 l, .int .i64 h, .int .i64 a, .int .i64 k, .int .i64 src, .int .i64 he, .int .i64 o, .int .i64 d] 58 := (own_at _ _ rfl).below hb
  have bel := belowTo ((Below.refl w.heap.size w).alloc (by simp) _) hb (by simp)
  clear hb 
  obtain ⟨cN0, cN1, cN2, cN3, cN4, cN5, cN6, cN7, cN8, fN, zN⟩ := own9 oN
  go_wp2
  exact ⟨rfl, rfl, (by repeat (first | exact bel | refine belowSet ?_ _ _ _ (by have := bel.size; omega) | refine Below.alloc ?_ (by have := bel.size; simp; omega) _))⟩

set_option linter.unusedVariables false in
set_option maxRecDepth 100000 in
set_option maxHeartbeats 2000000 in
theorem slot_big (sy : Bool) (l h a k src he o d asn : Int) (w : World) (hc : vldB o d = true) (h1 : 0 ≤ asn) (h2 : 1000000000 ≤ asn) :
    Calls Try.prog 17 #[.agg #[.bool sy, .int .i64 l, .int .i64 h, .int .i64 a, .int .i64 k, .int .i64 src, .int .i64 he, .int .i64 o, .int .i64 d], .int .i64 asn] w
      fun e w' => e = pan 1 ∧ Below w.heap.size w w' := by
  have Hhc := Lib.hid hc
  clear hc
  go_enter Try.func17, Try.ntmps17
  go_wp2_with fail
  refine (cvalid_lit o d true _ Hhc.out).mono ?_
  rintro e w1 ⟨rfl, hb⟩
  have oN : Own w1 w.heap.size [.bool sy, .int .i64 l, .int .i64 h, .int .i64 a, .int .i64 k, .int .i64 src, .int .i64 he, .int .i64 o, .int .i64 d] 58 := (own_at _ _ rfl).below hb
  have bel := belowTo ((Below.refl w.heap.size w).alloc (by simp) _) hb (by simp)
  clear hb 
  obtain ⟨cN0, cN1, cN2, cN3, cN4, cN5, cN6, cN7, cN8, fN, zN⟩ := own9 oN
  go_wp2
  exact ⟨rfl, rfl, (by repeat (first | exact bel | refine belowSet ?_ _ _ _ (by have := bel.size; omega) | refine Below.alloc ?_ (by have := bel.size; simp; omega) _))⟩

set_option linter.unusedVariables false in
set_option maxRecDepth 100000 in
set_option maxHeartbeats 2000000 in
theorem slot_state (sy : Bool) (l h a k src he o d asn : Int) (w : World) (hc : vldB o d = true) (h1 : 0 ≤ asn) (h2 : asn < 1000000000) (hhe : hrE sy l h a k src he 0 0 0 0 0 = 1)  :
    Calls Try.prog 17 #[.agg #[.bool sy, .int .i64 l, .int .i64 h, .int .i64 a, .int .i64 k, .int .i64 src, .int .i64 he, .int .i64 o, .int .i64 d], .int .i64 asn] w
      fun e w' => e = pan 1 ∧ Below w.heap.size w w' := by
  have Hhc := Lib.hid hc
  clear hc
  have Hhhe := Lib.hid hhe
  clear hhe
  go_enter Try.func17, Try.ntmps17
  go_wp2_with fail
  refine (cvalid_lit o d true _ Hhc.out).mono ?_
  rintro e w1 ⟨rfl, hb⟩
  have oN : Own w1 w.heap.size [.bool sy, .int .i64 l, .int .i64 h, .int .i64 a, .int .i64 k, .int .i64 src, .int .i64 he, .int .i64 o, .int .i64 d] 58 := (own_at _ _ rfl).below hb
  have bel := belowTo ((Below.refl w.heap.size w).alloc (by simp) _) hb (by simp)
  clear hb 
  obtain ⟨cN0, cN1, cN2, cN3, cN4, cN5, cN6, cN7, cN8, fN, zN⟩ := own9 oN
  go_wp2_with fail
  refine (hear_some sy l h a k src he 0 0 0 0 0 1 _ Hhhe.out).mono ?_
  rintro e w2 ⟨y, x1, x2, x3, x4, x5, x6, rfl, hb⟩
  replace oN := oN.below hb
  replace bel := belowTo bel hb (by exact bel.size)
  clear hb cN0 cN1 cN2 cN3 cN4 cN5 cN6 cN7 cN8 fN zN
  obtain ⟨cN0, cN1, cN2, cN3, cN4, cN5, cN6, cN7, cN8, fN, zN⟩ := own9 oN
  go_wp2
  exact ⟨rfl, rfl, (by repeat (first | exact bel | refine belowSet ?_ _ _ _ (by have := bel.size; omega) | refine Below.alloc ?_ (by have := bel.size; simp; omega) _))⟩

set_option linter.unusedVariables false in
set_option maxRecDepth 100000 in
set_option maxHeartbeats 2000000 in
theorem slot_off (l h a k src he o d asn E1 : Int) (w : World) (hc : vldB o d = true) (h1 : 0 ≤ asn) (h2 : asn < 1000000000) (hhe : hrE false l h a k src he 0 0 0 0 0 = E1) (hx : (E1 == 1) = false)  :
    Calls Try.prog 17 #[.agg #[.bool false, .int .i64 l, .int .i64 h, .int .i64 a, .int .i64 k, .int .i64 src, .int .i64 he, .int .i64 o, .int .i64 d], .int .i64 asn] w
      fun e w' => e = pan 16 ∧ Below w.heap.size w w' := by
  have Hhc := Lib.hid hc
  clear hc
  have Hhhe := Lib.hid hhe
  clear hhe
  go_enter Try.func17, Try.ntmps17
  go_wp2_with fail
  refine (cvalid_lit o d true _ Hhc.out).mono ?_
  rintro e w1 ⟨rfl, hb⟩
  have oN : Own w1 w.heap.size [.bool false, .int .i64 l, .int .i64 h, .int .i64 a, .int .i64 k, .int .i64 src, .int .i64 he, .int .i64 o, .int .i64 d] 58 := (own_at _ _ rfl).below hb
  have bel := belowTo ((Below.refl w.heap.size w).alloc (by simp) _) hb (by simp)
  clear hb 
  obtain ⟨cN0, cN1, cN2, cN3, cN4, cN5, cN6, cN7, cN8, fN, zN⟩ := own9 oN
  go_wp2_with fail
  refine (hear_some false l h a k src he 0 0 0 0 0 E1 _ Hhhe.out).mono ?_
  rintro e w2 ⟨y, x1, x2, x3, x4, x5, x6, rfl, hb⟩
  replace oN := oN.below hb
  replace bel := belowTo bel hb (by exact bel.size)
  clear hb cN0 cN1 cN2 cN3 cN4 cN5 cN6 cN7 cN8 fN zN
  obtain ⟨cN0, cN1, cN2, cN3, cN4, cN5, cN6, cN7, cN8, fN, zN⟩ := own9 oN
  go_wp2
  exact ⟨rfl, rfl, (by repeat (first | exact bel | refine belowSet ?_ _ _ _ (by have := bel.size; omega) | refine Below.alloc ?_ (by have := bel.size; simp; omega) _))⟩

set_option linter.unusedVariables false in
set_option maxRecDepth 100000 in
set_option maxHeartbeats 2000000 in
theorem slot_late (l h a k src he o d asn E1 O B E : Int) (w : World) (hc : vldB o d = true) (h1 : 0 ≤ asn) (h2 : asn < 1000000000) (hhe : hrE true l h a k src he 0 0 0 0 0 = E1) (hx : (E1 == 1) = false) (h3 : k ≤ 0 ∨ (-20000000000000 ≤ l ∧ l ≤ 20000000000000 ∧ -20000000000000 ≤ h ∧ h ≤ 20000000000000)) (ho : ownT k l h asn = O) (hb : bdN true l h a k src he O = B ∧ bdE true l h a k src he O = E) (hy : (E == 0) = false) :
    Calls Try.prog 17 #[.agg #[.bool true, .int .i64 l, .int .i64 h, .int .i64 a, .int .i64 k, .int .i64 src, .int .i64 he, .int .i64 o, .int .i64 d], .int .i64 asn] w
      fun e w' => e = pan E ∧ Below w.heap.size w w' := by
  have Hhc := Lib.hid hc
  clear hc
  have Hhhe := Lib.hid hhe
  clear hhe
  have Hho := Lib.hid ho
  clear ho
  have Hhb := Lib.hid hb
  clear hb
  go_enter Try.func17, Try.ntmps17
  go_wp2_with fail
  refine (cvalid_lit o d true _ Hhc.out).mono ?_
  rintro e w1 ⟨rfl, hb⟩
  have oN : Own w1 w.heap.size [.bool true, .int .i64 l, .int .i64 h, .int .i64 a, .int .i64 k, .int .i64 src, .int .i64 he, .int .i64 o, .int .i64 d] 58 := (own_at _ _ rfl).below hb
  have bel := belowTo ((Below.refl w.heap.size w).alloc (by simp) _) hb (by simp)
  clear hb 
  obtain ⟨cN0, cN1, cN2, cN3, cN4, cN5, cN6, cN7, cN8, fN, zN⟩ := own9 oN
  go_wp2_with fail
  refine (hear_some true l h a k src he 0 0 0 0 0 E1 _ Hhhe.out).mono ?_
  rintro e w2 ⟨y, x1, x2, x3, x4, x5, x6, rfl, hb⟩
  replace oN := oN.below hb
  replace bel := belowTo bel hb (by exact bel.size)
  clear hb cN0 cN1 cN2 cN3 cN4 cN5 cN6 cN7 cN8 fN zN
  obtain ⟨cN0, cN1, cN2, cN3, cN4, cN5, cN6, cN7, cN8, fN, zN⟩ := own9 oN
  go_wp2_with fail
  refine (ownTime_lit true l h a k src he o d asn O _ h1 h2 h3 Hho.out).mono ?_
  rintro e w3 ⟨rfl, hb⟩
  replace oN := (oN.alloc _).below hb
  replace bel := belowTo (bel.alloc (by have := bel.size; simp; omega) _) hb (by have := bel.size; simp; omega)
  clear hb cN0 cN1 cN2 cN3 cN4 cN5 cN6 cN7 cN8 fN zN
  obtain ⟨cN0, cN1, cN2, cN3, cN4, cN5, cN6, cN7, cN8, fN, zN⟩ := own9 oN
  go_wp2_with fail
  refine (tbound_lit true l h a k src he O B E _ Hhb.out).mono ?_
  rintro e w4 ⟨rfl, hb⟩
  replace oN := oN.below hb
  replace bel := belowTo bel hb (by exact bel.size)
  clear hb cN0 cN1 cN2 cN3 cN4 cN5 cN6 cN7 cN8 fN zN
  obtain ⟨cN0, cN1, cN2, cN3, cN4, cN5, cN6, cN7, cN8, fN, zN⟩ := own9 oN
  go_wp2_with fail
  refine (check_no E _ hy).mono ?_
  rintro e _ ⟨rfl, rfl⟩
  unfold pan
  go_wp2
  exact ⟨rfl, rfl, (by repeat (first | exact bel | refine belowSet ?_ _ _ _ (by have := bel.size; omega) | refine Below.alloc ?_ (by have := bel.size; simp; omega) _))⟩

set_option linter.unusedVariables false in
set_option maxRecDepth 100000 in
set_option maxHeartbeats 2000000 in
theorem slot_far (l h a k src he o d asn E1 O B : Int) (w : World) (hc : vldB o d = true) (h1 : 0 ≤ asn) (h2 : asn < 1000000000) (hhe : hrE true l h a k src he 0 0 0 0 0 = E1) (hx : (E1 == 1) = false) (h3 : k ≤ 0 ∨ (-20000000000000 ≤ l ∧ l ≤ 20000000000000 ∧ -20000000000000 ≤ h ∧ h ≤ 20000000000000)) (ho : ownT k l h asn = O) (hb : bdN true l h a k src he O = B ∧ bdE true l h a k src he O = 0) (b1 : O ≤ 30000000000000) (b2 : -30000000000000 ≤ O) (hl : 10000000000000 < lst o d O) :
    Calls Try.prog 17 #[.agg #[.bool true, .int .i64 l, .int .i64 h, .int .i64 a, .int .i64 k, .int .i64 src, .int .i64 he, .int .i64 o, .int .i64 d], .int .i64 asn] w
      fun e w' => e = pan 3 ∧ Below w.heap.size w w' := by
  have Hhc := Lib.hid hc
  clear hc
  have Hhhe := Lib.hid hhe
  clear hhe
  have Hho := Lib.hid ho
  clear ho
  have Hhb := Lib.hid hb
  clear hb
  have Hhl := Lib.hid hl
  clear hl
  go_enter Try.func17, Try.ntmps17
  go_wp2_with fail
  refine (cvalid_lit o d true _ Hhc.out).mono ?_
  rintro e w1 ⟨rfl, hb⟩
  have oN : Own w1 w.heap.size [.bool true, .int .i64 l, .int .i64 h, .int .i64 a, .int .i64 k, .int .i64 src, .int .i64 he, .int .i64 o, .int .i64 d] 58 := (own_at _ _ rfl).below hb
  have bel := belowTo ((Below.refl w.heap.size w).alloc (by simp) _) hb (by simp)
  clear hb 
  obtain ⟨cN0, cN1, cN2, cN3, cN4, cN5, cN6, cN7, cN8, fN, zN⟩ := own9 oN
  go_wp2_with fail
  refine (hear_some true l h a k src he 0 0 0 0 0 E1 _ Hhhe.out).mono ?_
  rintro e w2 ⟨y, x1, x2, x3, x4, x5, x6, rfl, hb⟩
  replace oN := oN.below hb
  replace bel := belowTo bel hb (by exact bel.size)
  clear hb cN0 cN1 cN2 cN3 cN4 cN5 cN6 cN7 cN8 fN zN
  obtain ⟨cN0, cN1, cN2, cN3, cN4, cN5, cN6, cN7, cN8, fN, zN⟩ := own9 oN
  go_wp2_with fail
  refine (ownTime_lit true l h a k src he o d asn O _ h1 h2 h3 Hho.out).mono ?_
  rintro e w3 ⟨rfl, hb⟩
  replace oN := (oN.alloc _).below hb
  replace bel := belowTo (bel.alloc (by have := bel.size; simp; omega) _) hb (by have := bel.size; simp; omega)
  clear hb cN0 cN1 cN2 cN3 cN4 cN5 cN6 cN7 cN8 fN zN
  obtain ⟨cN0, cN1, cN2, cN3, cN4, cN5, cN6, cN7, cN8, fN, zN⟩ := own9 oN
  go_wp2_with fail
  refine (tbound_lit true l h a k src he O B 0 _ Hhb.out).mono ?_
  rintro e w4 ⟨rfl, hb⟩
  replace oN := oN.below hb
  replace bel := belowTo bel hb (by exact bel.size)
  clear hb cN0 cN1 cN2 cN3 cN4 cN5 cN6 cN7 cN8 fN zN
  obtain ⟨cN0, cN1, cN2, cN3, cN4, cN5, cN6, cN7, cN8, fN, zN⟩ := own9 oN
  go_wp2_with fail
  refine (check_ok _).mono ?_
  rintro e _ ⟨rfl, rfl⟩
  go_wp2_with fail
  refine (begins_no true l h a k src he o d O _ Hhc.out b1 b2 Hhl.out).mono ?_
  rintro e w5 ⟨rfl, hb⟩
  replace oN := oN.below hb
  replace bel := belowTo bel hb (by exact bel.size)
  clear hb cN0 cN1 cN2 cN3 cN4 cN5 cN6 cN7 cN8 fN zN
  obtain ⟨cN0, cN1, cN2, cN3, cN4, cN5, cN6, cN7, cN8, fN, zN⟩ := own9 oN
  unfold pan
  go_wp2
  exact ⟨rfl, rfl, (by repeat (first | exact bel | refine belowSet ?_ _ _ _ (by have := bel.size; omega) | refine Below.alloc ?_ (by have := bel.size; simp; omega) _))⟩

set_option linter.unusedVariables false in
set_option maxRecDepth 100000 in
set_option maxHeartbeats 2000000 in
theorem slot_ok (l h a k src he o d asn E1 O B L : Int) (w : World) (hc : vldB o d = true) (h1 : 0 ≤ asn) (h2 : asn < 1000000000) (hhe : hrE true l h a k src he 0 0 0 0 0 = E1) (hx : (E1 == 1) = false) (h3 : k ≤ 0 ∨ (-20000000000000 ≤ l ∧ l ≤ 20000000000000 ∧ -20000000000000 ≤ h ∧ h ≤ 20000000000000)) (ho : ownT k l h asn = O) (hb : bdN true l h a k src he O = B ∧ bdE true l h a k src he O = 0) (b1 : O ≤ 30000000000000) (b2 : -30000000000000 ≤ O) (hl : lst o d O = L) (h4 : L ≤ 10000000000000) (h5 : 0 ≤ L) :
    Calls Try.prog 17 #[.agg #[.bool true, .int .i64 l, .int .i64 h, .int .i64 a, .int .i64 k, .int .i64 src, .int .i64 he, .int .i64 o, .int .i64 d], .int .i64 asn] w
      fun e w' => e = .returned (.tuple #[.int .i64 (L - asn * 10000), .int .i64 B]) ∧ Below w.heap.size w w' := by
  have Hhc := Lib.hid hc
  clear hc
  have Hhhe := Lib.hid hhe
  clear hhe
  have Hho := Lib.hid ho
  clear ho
  have Hhb := Lib.hid hb
  clear hb
  have Hhl := Lib.hid hl
  clear hl
  go_enter Try.func17, Try.ntmps17
  go_wp2_with fail
  refine (cvalid_lit o d true _ Hhc.out).mono ?_
  rintro e w1 ⟨rfl, hb⟩
  have oN : Own w1 w.heap.size [.bool true, .int .i64 l, .int .i64 h, .int .i64 a, .int .i64 k, .int .i64 src, .int .i64 he, .int .i64 o, .int .i64 d] 58 := (own_at _ _ rfl).below hb
  have bel := belowTo ((Below.refl w.heap.size w).alloc (by simp) _) hb (by simp)
  clear hb 
  obtain ⟨cN0, cN1, cN2, cN3, cN4, cN5, cN6, cN7, cN8, fN, zN⟩ := own9 oN
  go_wp2_with fail
  refine (hear_some true l h a k src he 0 0 0 0 0 E1 _ Hhhe.out).mono ?_
  rintro e w2 ⟨y, x1, x2, x3, x4, x5, x6, rfl, hb⟩
  replace oN := oN.below hb
  replace bel := belowTo bel hb (by exact bel.size)
  clear hb cN0 cN1 cN2 cN3 cN4 cN5 cN6 cN7 cN8 fN zN
  obtain ⟨cN0, cN1, cN2, cN3, cN4, cN5, cN6, cN7, cN8, fN, zN⟩ := own9 oN
  go_wp2_with fail
  refine (ownTime_lit true l h a k src he o d asn O _ h1 h2 h3 Hho.out).mono ?_
  rintro e w3 ⟨rfl, hb⟩
  replace oN := (oN.alloc _).below hb
  replace bel := belowTo (bel.alloc (by have := bel.size; simp; omega) _) hb (by have := bel.size; simp; omega)
  clear hb cN0 cN1 cN2 cN3 cN4 cN5 cN6 cN7 cN8 fN zN
  obtain ⟨cN0, cN1, cN2, cN3, cN4, cN5, cN6, cN7, cN8, fN, zN⟩ := own9 oN
  go_wp2_with fail
  refine (tbound_lit true l h a k src he O B 0 _ Hhb.out).mono ?_
  rintro e w4 ⟨rfl, hb⟩
  replace oN := oN.below hb
  replace bel := belowTo bel hb (by exact bel.size)
  clear hb cN0 cN1 cN2 cN3 cN4 cN5 cN6 cN7 cN8 fN zN
  obtain ⟨cN0, cN1, cN2, cN3, cN4, cN5, cN6, cN7, cN8, fN, zN⟩ := own9 oN
  go_wp2_with fail
  refine (check_ok _).mono ?_
  rintro e _ ⟨rfl, rfl⟩
  go_wp2_with fail
  refine (begins_ok true l h a k src he o d O L _ Hhc.out b1 b2 Hhl.out h4).mono ?_
  rintro e w5 ⟨rfl, hb⟩
  replace oN := oN.below hb
  replace bel := belowTo bel hb (by exact bel.size)
  clear hb cN0 cN1 cN2 cN3 cN4 cN5 cN6 cN7 cN8 fN zN
  obtain ⟨cN0, cN1, cN2, cN3, cN4, cN5, cN6, cN7, cN8, fN, zN⟩ := own9 oN
  go_wp2
  go_ret2
  exact ⟨rfl, bel⟩


theorem own_rng {sy : Bool} {l h a k src he asn : Int} (hv : vldT sy l h a k src he = true) (hs : sy = true) (h1 : 0 ≤ asn) (h2 : asn < 1000000000) :
    (k ≤ 0 ∨ (-20000000000000 ≤ l ∧ l ≤ 20000000000000 ∧ -20000000000000 ≤ h ∧ h ≤ 20000000000000)) ∧ ownT k l h asn ≤ 30000000000000 ∧ -30000000000000 ≤ ownT k l h asn := by
  rcases (vldT_on hv hs).2 with q | ⟨_, _, q⟩
  · subst q; exact ⟨.inl (by omega), by simp [ownT]; omega, by simp [ownT]; omega⟩
  · rw [vldS_iff] at q
    refine ⟨.inr (by omega), ?_, ?_⟩ <;> (unfold ownT; split <;> omega)

/-- The slot cannot be begun. -/
theorem slot_no (sy : Bool) (l h a k src he o d asn E : Int) (w : World) (hE : gsE sy l h a k src he o d asn = E) (hn : (E == 0) = false) :
    Calls Try.prog 17 #[.agg #[.bool sy, .int .i64 l, .int .i64 h, .int .i64 a, .int .i64 k, .int .i64 src, .int .i64 he, .int .i64 o, .int .i64 d], .int .i64 asn] w
      fun e w' => e = pan E ∧ Below w.heap.size w w' := by
  have hn' : E ≠ 0 := by simpa using hn
  cases hc : vldB o d with
  | false =>
    obtain rfl : 1 = E := by rw [← hE]; simp [gsE, gsV, hc]
    exact slot_clock sy l h a k src he o d asn w hc
  | true =>
    by_cases h1 : 0 ≤ asn
    · by_cases h2 : asn < 1000000000
      · cases hv : vldT sy l h a k src he with
        | false =>
          obtain rfl : 1 = E := by rw [← hE]; simp [gsE, gsV, hc, hv]
          exact slot_state sy l h a k src he o d asn w hc h1 h2 (hear_empty_no hv)
        | true =>
          have hV : gsV sy l h a k src he o d asn = true := by simp [gsV, hc, hv, h1, h2]
          cases sy with
          | false =>
            obtain rfl : 16 = E := by rw [← hE]; simp [gsE, hV]
            exact slot_off l h a k src he o d asn _ w hc h1 h2 rfl (hear_empty hv)
          | true =>
            obtain ⟨r1, r2, r3⟩ := own_rng hv rfl h1 h2
            by_cases hb : bdE true l h a k src he (ownT k l h asn) = 0
            · by_cases hl : lst o d (ownT k l h asn) ≤ 10000000000000
              · exact absurd (gs_mk hc h1 h2 hv rfl hb hl) (by rw [hE]; exact hn')
              · obtain rfl : 3 = E := by rw [← hE]; simp [gsE, hV, hb, hl]
                exact slot_far l h a k src he o d asn _ _ _ w hc h1 h2 rfl (hear_empty hv) r1 rfl ⟨rfl, hb⟩ r2 r3 (by omega)
            · obtain rfl : bdE true l h a k src he (ownT k l h asn) = E := by rw [← hE]; simp [gsE, hV, hb]
              exact slot_late l h a k src he o d asn _ _ _ _ w hc h1 h2 rfl (hear_empty hv) r1 rfl ⟨rfl, rfl⟩ hn
      · obtain rfl : 1 = E := by rw [← hE]; simp [gsE, gsV, h2]
        exact slot_big sy l h a k src he o d asn w hc h1 (by omega)
    · obtain rfl : 1 = E := by rw [← hE]; simp [gsE, gsV, h1]
      exact slot_neg sy l h a k src he o d asn w hc (by omega)

/-- It can. -/
theorem slot_yes (sy : Bool) (l h a k src he o d asn N B : Int) (w : World) (hE : gsE sy l h a k src he o d asn = 0) (hN : gsN sy l h a k src he o d asn = N ∧ gsB sy l h a k src he o d asn = B) :
    Calls Try.prog 17 #[.agg #[.bool sy, .int .i64 l, .int .i64 h, .int .i64 a, .int .i64 k, .int .i64 src, .int .i64 he, .int .i64 o, .int .i64 d], .int .i64 asn] w
      fun e w' => e = .returned (.tuple #[.int .i64 N, .int .i64 B]) ∧ Below w.heap.size w w' := by
  obtain ⟨rfl, rfl⟩ := hN
  obtain ⟨h1, ⟨h2, h3⟩, h4, h5, h6, h7⟩ := gs_zero hE
  have e1 : gsN sy l h a k src he o d asn = lst o d (ownT k l h asn) - asn * 10000 := by simp [gsN, hE]
  have e2 : gsB sy l h a k src he o d asn = bdN sy l h a k src he (ownT k l h asn) := by simp [gsB, hE]
  rw [e1, e2]
  subst h5
  obtain ⟨r1, r2, r3⟩ := own_rng h4 rfl h2 h3
  exact slot_ok l h a k src he o d asn _ _ _ _ w h1 h2 h3 rfl (hear_empty h4) r1 rfl ⟨rfl, h6⟩ r2 r3 rfl h7 (lst_bd _ _ _).1

end Go.Proofs.Ythnilgmafbkdkaa
