/- The walk of DownOrder. -/
import Derived.Test.YtheifmdaladfdaaHead21
import Derived.Test.YtheifmdaladfdaaOrder21p
namespace Go.Proofs.Ytheifmdaladfdaa
open Go.RowKit

set_option linter.unusedSimpArgs false in
set_option linter.unusedVariables false in
set_option maxRecDepth 100000 in
set_option maxHeartbeats 2000000 in
theorem order_w0 (v v2 v3 : Value) (ls xs ys : List Dn) (a b s t f : Int) (w : World) (sl : SlD w v ls) (sx : SlD w v2 xs) (sy : SlD w v3 ys) (hs : (decide (xs.length ≤ 70) && decide (ys.length ≤ 70)) = false) : Calls Try.prog 8 #[v, .int .i64 a, .int .i64 b, .int .i64 s, .int .i64 t, v2, v3, .int .i64 f] w fun e w' => e = .returned (.bool true) ∧ Below w.heap.size w w' := by
  obtain ⟨p1, cap1, e0, hlc1, hcm1, hpn1⟩ := sl.form ls.length rfl
  subst e0
  have SL := Lib.hid sl
  clear hpn1 hlc1 hcm1 sl
  obtain ⟨p2, cap2, e0, hlc2, hcm2, hpn2⟩ := sx.form xs.length rfl
  subst e0
  have SX := Lib.hid sx
  clear hpn2 hlc2 hcm2 sx
  obtain ⟨p3, cap3, e0, hlc3, hcm3, hpn3⟩ := sy.form ys.length rfl
  subst e0
  have SY := Lib.hid sy
  clear hpn3 hlc3 hcm3 sy
  have HS := Lib.hid hs
  clear hs
  go_enter Try.func8, Try.ntmps8
  go_wp2_with fail
  refine (head_true _).mono ?_
  rintro e w1 ⟨rfl, hb⟩
  replace SL := Lib.hid (SL.out.below hb)
  replace SX := Lib.hid (SX.out.below hb)
  replace SY := Lib.hid (SY.out.below hb)
  have B := Lib.hid hb
  clear hb
  go_wp2_with fail
  refine (short_lit _ _ xs ys false _ SX.out SY.out HS.out).mono ?_
  rintro e w2 ⟨rfl, rfl⟩

  go_wp2_with fail
  go_ret
  exact ⟨rfl, B.out⟩

set_option linter.unusedSimpArgs false in
set_option linter.unusedVariables false in
set_option maxRecDepth 100000 in
set_option maxHeartbeats 2000000 in
theorem order_w1 (v v2 v3 : Value) (ls xs ys : List Dn) (a b s t f : Int) (w : World) (sl : SlD w v ls) (sx : SlD w v2 xs) (sy : SlD w v3 ys) (hs : (decide (xs.length ≤ 70) && decide (ys.length ≤ 70)) = true) (h70 : 70 < ls.length) : Calls Try.prog 8 #[v, .int .i64 a, .int .i64 b, .int .i64 s, .int .i64 t, v2, v3, .int .i64 f] w fun e w' => e = .returned (.bool true) ∧ Below w.heap.size w w' := by
  obtain ⟨p1, cap1, e0, hlc1, hcm1, hpn1⟩ := sl.form ls.length rfl
  subst e0
  have SL := Lib.hid sl
  clear hpn1 hlc1 hcm1 sl
  obtain ⟨p2, cap2, e0, hlc2, hcm2, hpn2⟩ := sx.form xs.length rfl
  subst e0
  have SX := Lib.hid sx
  clear hpn2 hlc2 hcm2 sx
  obtain ⟨p3, cap3, e0, hlc3, hcm3, hpn3⟩ := sy.form ys.length rfl
  subst e0
  have SY := Lib.hid sy
  clear hpn3 hlc3 hcm3 sy
  have HS := Lib.hid hs
  clear hs
  have k70 : decide ((70 : Int) < (ls.length : Int)) = true := decide_eq_true (by omega)
  go_enter Try.func8, Try.ntmps8
  go_wp2_with fail
  refine (head_true _).mono ?_
  rintro e w1 ⟨rfl, hb⟩
  replace SL := Lib.hid (SL.out.below hb)
  replace SX := Lib.hid (SX.out.below hb)
  replace SY := Lib.hid (SY.out.below hb)
  have B := Lib.hid hb
  clear hb
  go_wp2_with fail
  refine (short_lit _ _ xs ys true _ SX.out SY.out HS.out).mono ?_
  rintro e w2 ⟨rfl, rfl⟩

  go_wp2_with fail
  go_ret
  exact ⟨rfl, B.out⟩

set_option linter.unusedSimpArgs false in
set_option linter.unusedVariables false in
set_option maxRecDepth 100000 in
set_option maxHeartbeats 2000000 in
theorem order_w2 (v v2 v3 : Value) (ls xs ys : List Dn) (a b s t f : Int) (w : World) (sl : SlD w v ls) (sx : SlD w v2 xs) (sy : SlD w v3 ys) (hs : (decide (xs.length ≤ 70) && decide (ys.length ≤ 70)) = true) (h70 : ls.length ≤ 70) (hv : vldD ls = false) : Calls Try.prog 8 #[v, .int .i64 a, .int .i64 b, .int .i64 s, .int .i64 t, v2, v3, .int .i64 f] w fun e w' => e = .returned (.bool true) ∧ Below w.heap.size w w' := by
  obtain ⟨p1, cap1, e0, hlc1, hcm1, hpn1⟩ := sl.form ls.length rfl
  subst e0
  have SL := Lib.hid sl
  clear hpn1 hlc1 hcm1 sl
  obtain ⟨p2, cap2, e0, hlc2, hcm2, hpn2⟩ := sx.form xs.length rfl
  subst e0
  have SX := Lib.hid sx
  clear hpn2 hlc2 hcm2 sx
  obtain ⟨p3, cap3, e0, hlc3, hcm3, hpn3⟩ := sy.form ys.length rfl
  subst e0
  have SY := Lib.hid sy
  clear hpn3 hlc3 hcm3 sy
  have HS := Lib.hid hs
  clear hs
  have k70 : decide ((70 : Int) < (ls.length : Int)) = false := decide_eq_false (by omega)
  have HV := Lib.hid hv
  clear hv
  go_enter Try.func8, Try.ntmps8
  go_wp2_with fail
  refine (head_true _).mono ?_
  rintro e w1 ⟨rfl, hb⟩
  replace SL := Lib.hid (SL.out.below hb)
  replace SX := Lib.hid (SX.out.below hb)
  replace SY := Lib.hid (SY.out.below hb)
  have B := Lib.hid hb
  clear hb
  go_wp2_with fail
  refine (short_lit _ _ xs ys true _ SX.out SY.out HS.out).mono ?_
  rintro e w2 ⟨rfl, rfl⟩
  go_wp2_with fail
  refine (rdvalid_lit _ ls false _ SL.out HV.out).mono ?_
  rintro e w3 ⟨rfl, hb⟩
  replace SL := Lib.hid (SL.out.below hb)
  replace SX := Lib.hid (SX.out.below hb)
  replace SY := Lib.hid (SY.out.below hb)
  replace B := Lib.hid (B.out.trans (hb.mono B.out.size))
  clear hb
  go_wp2_with fail
  go_ret
  exact ⟨rfl, B.out⟩

set_option linter.unusedSimpArgs false in
set_option linter.unusedVariables false in
set_option maxRecDepth 100000 in
set_option maxHeartbeats 2000000 in
theorem order_w3 (v v2 v3 : Value) (ls xs ys : List Dn) (a b s t f : Int) (w : World) (sl : SlD w v ls) (sx : SlD w v2 xs) (sy : SlD w v3 ys) (hs : (decide (xs.length ≤ 70) && decide (ys.length ≤ 70)) = true) (h70 : ls.length ≤ 70) (hv : vldD ls = true) (hab : (a == b) = true) : Calls Try.prog 8 #[v, .int .i64 a, .int .i64 b, .int .i64 s, .int .i64 t, v2, v3, .int .i64 f] w fun e w' => e = .returned (.bool true) ∧ Below w.heap.size w w' := by
  obtain ⟨p1, cap1, e0, hlc1, hcm1, hpn1⟩ := sl.form ls.length rfl
  subst e0
  have SL := Lib.hid sl
  clear hpn1 hlc1 hcm1 sl
  obtain ⟨p2, cap2, e0, hlc2, hcm2, hpn2⟩ := sx.form xs.length rfl
  subst e0
  have SX := Lib.hid sx
  clear hpn2 hlc2 hcm2 sx
  obtain ⟨p3, cap3, e0, hlc3, hcm3, hpn3⟩ := sy.form ys.length rfl
  subst e0
  have SY := Lib.hid sy
  clear hpn3 hlc3 hcm3 sy
  have HS := Lib.hid hs
  clear hs
  have k70 : decide ((70 : Int) < (ls.length : Int)) = false := decide_eq_false (by omega)
  have HV := Lib.hid hv
  clear hv
  go_enter Try.func8, Try.ntmps8
  go_wp2_with fail
  refine (head_true _).mono ?_
  rintro e w1 ⟨rfl, hb⟩
  replace SL := Lib.hid (SL.out.below hb)
  replace SX := Lib.hid (SX.out.below hb)
  replace SY := Lib.hid (SY.out.below hb)
  have B := Lib.hid hb
  clear hb
  go_wp2_with fail
  refine (short_lit _ _ xs ys true _ SX.out SY.out HS.out).mono ?_
  rintro e w2 ⟨rfl, rfl⟩
  go_wp2_with fail
  refine (rdvalid_lit _ ls true _ SL.out HV.out).mono ?_
  rintro e w3 ⟨rfl, hb⟩
  replace SL := Lib.hid (SL.out.below hb)
  replace SX := Lib.hid (SX.out.below hb)
  replace SY := Lib.hid (SY.out.below hb)
  replace B := Lib.hid (B.out.trans (hb.mono B.out.size))
  clear hb
  go_wp2_with fail
  go_ret
  exact ⟨rfl, B.out⟩

set_option linter.unusedSimpArgs false in
set_option linter.unusedVariables false in
set_option maxRecDepth 100000 in
set_option maxHeartbeats 2000000 in
theorem order_w4 (v v2 v3 : Value) (ls xs ys : List Dn) (a b s t f : Int) (w : World) (sl : SlD w v ls) (sx : SlD w v2 xs) (sy : SlD w v3 ys) (hs : (decide (xs.length ≤ 70) && decide (ys.length ≤ 70)) = true) (h70 : ls.length ≤ 70) (hv : vldD ls = true) (hab : (a == b) = false) (hx : 0 ≤ idxD (fun e => e.t == b) xs) : Calls Try.prog 8 #[v, .int .i64 a, .int .i64 b, .int .i64 s, .int .i64 t, v2, v3, .int .i64 f] w fun e w' => e = .returned (.bool true) ∧ Below w.heap.size w w' := by
  obtain ⟨p1, cap1, e0, hlc1, hcm1, hpn1⟩ := sl.form ls.length rfl
  subst e0
  have SL := Lib.hid sl
  clear hpn1 hlc1 hcm1 sl
  obtain ⟨p2, cap2, e0, hlc2, hcm2, hpn2⟩ := sx.form xs.length rfl
  subst e0
  have SX := Lib.hid sx
  clear hpn2 hlc2 hcm2 sx
  obtain ⟨p3, cap3, e0, hlc3, hcm3, hpn3⟩ := sy.form ys.length rfl
  subst e0
  have SY := Lib.hid sy
  clear hpn3 hlc3 hcm3 sy
  have HS := Lib.hid hs
  clear hs
  have k70 : decide ((70 : Int) < (ls.length : Int)) = false := decide_eq_false (by omega)
  have HV := Lib.hid hv
  clear hv
  obtain ⟨X, hX⟩ : ∃ X, idxD (fun e => e.t == b) xs = X := ⟨_, rfl⟩
  rw [hX] at hx
  have HX := Lib.hid hX
  clear hX
  go_enter Try.func8, Try.ntmps8
  go_wp2_with fail
  refine (head_true _).mono ?_
  rintro e w1 ⟨rfl, hb⟩
  replace SL := Lib.hid (SL.out.below hb)
  replace SX := Lib.hid (SX.out.below hb)
  replace SY := Lib.hid (SY.out.below hb)
  have B := Lib.hid hb
  clear hb
  go_wp2_with fail
  refine (short_lit _ _ xs ys true _ SX.out SY.out HS.out).mono ?_
  rintro e w2 ⟨rfl, rfl⟩
  go_wp2_with fail
  refine (rdvalid_lit _ ls true _ SL.out HV.out).mono ?_
  rintro e w3 ⟨rfl, hb⟩
  replace SL := Lib.hid (SL.out.below hb)
  replace SX := Lib.hid (SX.out.below hb)
  replace SY := Lib.hid (SY.out.below hb)
  replace B := Lib.hid (B.out.trans (hb.mono B.out.size))
  clear hb
  go_wp2_with fail
  refine (rfind_lit _ xs b X _ SX.out HX.out).mono ?_
  rintro e w4 ⟨rfl, rfl⟩
  go_wp2_with fail
  go_ret
  exact ⟨rfl, B.out⟩

set_option linter.unusedSimpArgs false in
set_option linter.unusedVariables false in
set_option maxRecDepth 100000 in
set_option maxHeartbeats 2000000 in
theorem order_w5 (v v2 v3 : Value) (ls xs ys : List Dn) (a b s t f : Int) (w : World) (sl : SlD w v ls) (sx : SlD w v2 xs) (sy : SlD w v3 ys) (hs : (decide (xs.length ≤ 70) && decide (ys.length ≤ 70)) = true) (h70 : ls.length ≤ 70) (hv : vldD ls = true) (hab : (a == b) = false) (hx : ¬ 0 ≤ idxD (fun e => e.t == b) xs) (hy : 0 ≤ idxD (fun e => e.t == a) ys) : Calls Try.prog 8 #[v, .int .i64 a, .int .i64 b, .int .i64 s, .int .i64 t, v2, v3, .int .i64 f] w fun e w' => e = .returned (.bool true) ∧ Below w.heap.size w w' := by
  obtain ⟨p1, cap1, e0, hlc1, hcm1, hpn1⟩ := sl.form ls.length rfl
  subst e0
  have SL := Lib.hid sl
  clear hpn1 hlc1 hcm1 sl
  obtain ⟨p2, cap2, e0, hlc2, hcm2, hpn2⟩ := sx.form xs.length rfl
  subst e0
  have SX := Lib.hid sx
  clear hpn2 hlc2 hcm2 sx
  obtain ⟨p3, cap3, e0, hlc3, hcm3, hpn3⟩ := sy.form ys.length rfl
  subst e0
  have SY := Lib.hid sy
  clear hpn3 hlc3 hcm3 sy
  have HS := Lib.hid hs
  clear hs
  have k70 : decide ((70 : Int) < (ls.length : Int)) = false := decide_eq_false (by omega)
  have HV := Lib.hid hv
  clear hv
  obtain ⟨X, hX⟩ : ∃ X, idxD (fun e => e.t == b) xs = X := ⟨_, rfl⟩
  rw [hX] at hx
  have HX := Lib.hid hX
  clear hX
  obtain ⟨Y, hY⟩ : ∃ Y, idxD (fun e => e.t == a) ys = Y := ⟨_, rfl⟩
  rw [hY] at hy
  have HY := Lib.hid hY
  clear hY
  go_enter Try.func8, Try.ntmps8
  go_wp2_with fail
  refine (head_true _).mono ?_
  rintro e w1 ⟨rfl, hb⟩
  replace SL := Lib.hid (SL.out.below hb)
  replace SX := Lib.hid (SX.out.below hb)
  replace SY := Lib.hid (SY.out.below hb)
  have B := Lib.hid hb
  clear hb
  go_wp2_with fail
  refine (short_lit _ _ xs ys true _ SX.out SY.out HS.out).mono ?_
  rintro e w2 ⟨rfl, rfl⟩
  go_wp2_with fail
  refine (rdvalid_lit _ ls true _ SL.out HV.out).mono ?_
  rintro e w3 ⟨rfl, hb⟩
  replace SL := Lib.hid (SL.out.below hb)
  replace SX := Lib.hid (SX.out.below hb)
  replace SY := Lib.hid (SY.out.below hb)
  replace B := Lib.hid (B.out.trans (hb.mono B.out.size))
  clear hb
  go_wp2_with fail
  refine (rfind_lit _ xs b X _ SX.out HX.out).mono ?_
  rintro e w4 ⟨rfl, rfl⟩
  go_wp2_with fail
  refine (rfind_lit _ ys a Y _ SY.out HY.out).mono ?_
  rintro e w5 ⟨rfl, rfl⟩
  go_wp2_with fail
  go_ret
  exact ⟨rfl, B.out⟩

set_option linter.unusedSimpArgs false in
set_option linter.unusedVariables false in
set_option maxRecDepth 100000 in
set_option maxHeartbeats 2000000 in
theorem order_on (v v2 v3 : Value) (ls xs ys : List Dn) (a b s t f : Int) (w : World) (sl : SlD w v ls) (sx : SlD w v2 xs) (sy : SlD w v3 ys) (hs : (decide (xs.length ≤ 70) && decide (ys.length ≤ 70)) = true) (h70 : ls.length ≤ 70) (hv : vldD ls = true) (hab : (a == b) = false) (hx : ¬ 0 ≤ idxD (fun e => e.t == b) xs) (hy : ¬ 0 ≤ idxD (fun e => e.t == a) ys) : Calls Try.prog 8 #[v, .int .i64 a, .int .i64 b, .int .i64 s, .int .i64 t, v2, v3, .int .i64 f] w fun e w' => e = .returned (.bool true) ∧ Below w.heap.size w w' := by
  obtain ⟨p1, cap1, e0, hlc1, hcm1, hpn1⟩ := sl.form ls.length rfl
  subst e0
  have SL := Lib.hid sl
  clear hpn1 hlc1 hcm1 sl
  obtain ⟨p2, cap2, e0, hlc2, hcm2, hpn2⟩ := sx.form xs.length rfl
  subst e0
  have SX := Lib.hid sx
  clear hpn2 hlc2 hcm2 sx
  obtain ⟨p3, cap3, e0, hlc3, hcm3, hpn3⟩ := sy.form ys.length rfl
  subst e0
  have SY := Lib.hid sy
  clear hpn3 hlc3 hcm3 sy
  have x70 : xs.length ≤ 70 := by simp at hs; exact hs.1
  have y70 : ys.length ≤ 70 := by simp at hs; exact hs.2
  have HN := Lib.hid (show a ≠ b from beq_eq_false_iff_ne.1 hab)
  have HB := Lib.hid (show getD' xs b = none by
    cases h : getD' xs b with
    | none => rfl
    | some d => exact absurd (idx_nonneg.2 (by rw [h]; rfl)) hx)
  have HA := Lib.hid (show getD' ys a = none by
    cases h : getD' ys a with
    | none => rfl
    | some d => exact absurd (idx_nonneg.2 (by rw [h]; rfl)) hy)
  have HS := Lib.hid hs
  clear hs
  have k70 : decide ((70 : Int) < (ls.length : Int)) = false := decide_eq_false (by omega)
  have HV := Lib.hid hv
  clear hv
  obtain ⟨X, hX⟩ : ∃ X, idxD (fun e => e.t == b) xs = X := ⟨_, rfl⟩
  rw [hX] at hx
  have HX := Lib.hid hX
  clear hX
  obtain ⟨Y, hY⟩ : ∃ Y, idxD (fun e => e.t == a) ys = Y := ⟨_, rfl⟩
  rw [hY] at hy
  have HY := Lib.hid hY
  clear hY
  go_enter Try.func8, Try.ntmps8
  go_wp2_with fail
  refine (head_true _).mono ?_
  rintro e w1 ⟨rfl, hb⟩
  replace SL := Lib.hid (SL.out.below hb)
  replace SX := Lib.hid (SX.out.below hb)
  replace SY := Lib.hid (SY.out.below hb)
  have B := Lib.hid hb
  clear hb
  go_wp2_with fail
  refine (short_lit _ _ xs ys true _ SX.out SY.out HS.out).mono ?_
  rintro e w2 ⟨rfl, rfl⟩
  go_wp2_with fail
  refine (rdvalid_lit _ ls true _ SL.out HV.out).mono ?_
  rintro e w3 ⟨rfl, hb⟩
  replace SL := Lib.hid (SL.out.below hb)
  replace SX := Lib.hid (SX.out.below hb)
  replace SY := Lib.hid (SY.out.below hb)
  replace B := Lib.hid (B.out.trans (hb.mono B.out.size))
  clear hb
  go_wp2_with fail
  refine (rfind_lit _ xs b X _ SX.out HX.out).mono ?_
  rintro e w4 ⟨rfl, rfl⟩
  go_wp2_with fail
  refine (rfind_lit _ ys a Y _ SY.out HY.out).mono ?_
  rintro e w5 ⟨rfl, rfl⟩
  go_wp2_with fail
  go_loopw [63] (fun ii wr => ∃ (i : Nat), i ≤ xs.length ∧ ii = .int .i64 i ∧ Below w3.heap.size w3 wr ∧ ∀ d ∈ xs.take i, getD' ys d.t = none) (fun i _ => xs.length - (intOf i).toNat)
  case atStart => exact ⟨0, by omega, rfl, Below.refl _ _, fun d hd => by simp at hd⟩
  case round =>
    obtain ⟨i, hi, rfl, hb, hq⟩ := hrel
    have BL := Lib.hid hb
    have HQ := Lib.hid hq
    clear hb hq
    have j0 : (0 : Int) ≤ (i : Int) := Int.natCast_nonneg _
    have SY1 := Lib.hid (SY.out.below BL.out)
    by_cases hlt : i < xs.length
    · obtain ⟨d, bb, off, hd, rfl, hbl, _, d0, d1, d2, d3⟩ := SX.out.at4 BL.out hlt
      have j1 : (i : Int) < (xs.length : Int) := by omega
      obtain ⟨k, hk⟩ : ∃ k, idxD (fun e => e.t == d.t) ys = k := ⟨_, rfl⟩
      have HK := Lib.hid hk
      have HD := Lib.hid hd
      clear hk hd
      by_cases k0 : 0 ≤ k
      · go_wp2_with (first | (go_at_call 22; refine (rfind_lit _ ys d.t k _ (SY1.out.below (belowNew _ _)) HK.out).mono ?_; rintro e w6 ⟨rfl, rfl⟩) | fail)
        go_ret
        exact ⟨rfl, B.out.trans ((BL.out.trans ((belowNew _ _).mono BL.out.size)).mono B.out.size)⟩
      · go_wp2_with (first | (go_at_call 22; refine (rfind_lit _ ys d.t k _ (SY1.out.below (belowNew _ _)) HK.out).mono ?_; rintro e w6 ⟨rfl, rfl⟩) | fail)
        go_roundw
        case rel => exact ⟨i + 1, by omega, by go_num, BL.out.trans ((belowNew _ _).mono BL.out.size), fun e he => by
          rw [List.take_succ_eq_append_getElem hlt, show xs[i] = d from (List.getElem?_eq_some_iff.1 HD.out).2, List.mem_append, List.mem_singleton] at he
          rcases he with he | rfl
          · exact HQ.out e he
          · cases h : getD' ys e.t with
            | none => rfl
            | some z => exact absurd (idx_nonneg.2 (by rw [h]; rfl)) (by rw [HK.out]; omega)⟩
        case measure => simp [intOf]; omega
    · obtain rfl : i = xs.length := by omega
      have HD3 := Lib.hid (show ∀ d ∈ xs, getD' ys d.t = none by have := HQ.out; rwa [List.take_length] at this)
      have SL1 := Lib.hid (SL.out.below BL.out)
      have SX1 := Lib.hid (SX.out.below BL.out)
      have BZ := Lib.hid (B.out.trans (BL.out.mono B.out.size))
      clear HQ
      obtain ⟨P, hP⟩ : ∃ P, lrX ls xs a s f = P := ⟨_, rfl⟩
      obtain ⟨E1, hE1⟩ : ∃ E, lrE ls xs a s f = E := ⟨_, rfl⟩
      obtain ⟨Q, hQ⟩ : ∃ P, lrX ls ys b t f = P := ⟨_, rfl⟩
      obtain ⟨E2, hE2⟩ : ∃ E, lrE ls ys b t f = E := ⟨_, rfl⟩
      have hP60 : P.length ≤ 70 := by rw [← hP]; have := lrX_len ls xs a s f; omega
      have hQ60 : Q.length ≤ 70 := by rw [← hQ]; have := lrX_len ls ys b t f; omega
      have H1 := Lib.hid (And.intro hP hE1)
      have H2 := Lib.hid (And.intro hQ hE2)
      clear hP hE1 hQ hE2
      go_wp2_with fail
      refine (learn_lit _ _ ls xs a s f P E1 _ SL1.out SX1.out h70 x70 H1.out).mono ?_
      rintro e w7 ⟨vp, rfl, hs, hb⟩
      have SP := Lib.hid hs
      replace SL1 := Lib.hid (SL1.out.below hb)
      replace SX1 := Lib.hid (SX1.out.below hb)
      replace SY1 := Lib.hid (SY1.out.below hb)
      replace BZ := Lib.hid (BZ.out.trans (hb.mono BZ.out.size))
      clear hs hb
      go_wp2_with fail
      refine (learn_lit _ _ ls ys b t f Q E2 _ SL1.out SY1.out h70 y70 H2.out).mono ?_
      rintro e w8 ⟨vq, rfl, hs, hb⟩
      have SQ := Lib.hid hs
      replace SP := Lib.hid (SP.out.below hb)
      replace SX1 := Lib.hid (SX1.out.below hb)
      replace SY1 := Lib.hid (SY1.out.below hb)
      replace BZ := Lib.hid (BZ.out.trans (hb.mono BZ.out.size))
      clear hs hb
      by_cases he : lrnB ls xs a s f = true ∧ lrnB ls ys b t f = true
      · have g1 := lrX_good he.1
        have g2 := lrX_good he.2
        have e1 : E1 = 0 := by rw [← H1.out.2]; exact g1.2
        have e2 : E2 = 0 := by rw [← H2.out.2]; exact g2.2
        have eP : P = lrL ls xs a s f := by rw [← H1.out.1]; exact g1.1
        have eQ : Q = lrL ls ys b t f := by rw [← H2.out.1]; exact g2.1
        have hPv : lrnB P ys b t f = true := lrnB_ls he.2 (by rw [eP]; exact lrL_valid he.1)
        have hQv : lrnB Q xs a s f = true := lrnB_ls he.1 (by rw [eQ]; exact lrL_valid he.2)
        have H3 := Lib.hid (lrX_good hPv)
        have H4 := Lib.hid (lrX_good hQv)
        have HU := Lib.hid (show lrL P ys b t f = lrL Q xs a s f by rw [eP, eQ]; exact order_eq HN.out HB.out HA.out HD3.out)
        clear H1 H2 g1 g2 eP eQ hPv hQv he
        subst e1 e2
        obtain ⟨U, hU⟩ : ∃ U, lrL P ys b t f = U := ⟨_, rfl⟩
        rw [hU] at H3 HU
        have hU2 := HU.out
        rw [← hU2] at H4
        clear HU hU hU2
        go_wp2_with fail
        refine (learn_lit _ _ P ys b t f U 0 _ SP.out SY1.out hP60 y70 H3.out).mono ?_
        rintro e w9 ⟨vu, rfl, hs, hb⟩
        have SU := Lib.hid hs
        replace SQ := Lib.hid (SQ.out.below hb)
        replace SX1 := Lib.hid (SX1.out.below hb)
        replace BZ := Lib.hid (BZ.out.trans (hb.mono BZ.out.size))
        clear hs hb
        go_wp2_with fail
        refine (learn_lit _ _ Q xs a s f U 0 _ SQ.out SX1.out hQ60 x70 H4.out).mono ?_
        rintro e w10 ⟨vv, rfl, hs, hb⟩
        have SV := Lib.hid hs
        replace SU := Lib.hid (SU.out.below hb)
        replace BZ := Lib.hid (BZ.out.trans (hb.mono BZ.out.size))
        clear hs hb
        go_wp2_with fail
        refine (same_lit _ _ U U true _ SU.out SV.out (sameD_iff.2 rfl)).mono ?_
        rintro e w11 ⟨rfl, hb⟩
        replace BZ := Lib.hid (BZ.out.trans (hb.mono BZ.out.size))
        clear hb
        go_wp2_with fail
        all_goals (go_ret; exact ⟨rfl, BZ.out⟩)
      · have e12 : (E1 == 0) = false ∨ ((E1 == 0) = true ∧ (E2 == 0) = false) := by
          rw [← H1.out.2, ← H2.out.2]
          cases h1 : lrnB ls xs a s f with
          | false => rw [(lrX_bad h1).2]; exact .inl rfl
          | true =>
            cases h2 : lrnB ls ys b t f with
            | false => rw [(lrX_good h1).2, (lrX_bad h2).2]; exact .inr ⟨rfl, rfl⟩
            | true => exact absurd ⟨h1, h2⟩ he
        clear he H1 H2
        rcases e12 with h1 | ⟨h1, h2⟩
        · go_wp2_with fail
          all_goals (go_ret; exact ⟨rfl, BZ.out⟩)
        · go_wp2_with fail
          all_goals (go_ret; exact ⟨rfl, BZ.out⟩)

theorem downOrder_walk (v : Value) (ls : List Dn) (a b s t : Int) (v2 : Value) (xs : List Dn) (v3 : Value) (ys : List Dn) (f : Int) (w : World) (sl : SlD w v ls) {q0 q1 q2 q3 q4 q5 q6 q7 : Prop} (_ : q0) (_ : q1) (_ : q2) (_ : q3) (_ : q4) (sx : SlD w v2 xs) (_ : q5) (sy : SlD w v3 ys) (_ : q6) (_ : q7) :
    Calls Try.prog 8 #[v, .int .i64 a, .int .i64 b, .int .i64 s, .int .i64 t, v2, v3, .int .i64 f] w fun e w' => e = .returned (.bool true) ∧ Below w.heap.size w w' := by
  cases hs : (decide (xs.length ≤ 70) && decide (ys.length ≤ 70)) with
  | false => exact order_w0 v v2 v3 ls xs ys a b s t f w sl sx sy hs
  | true =>
    by_cases h70 : ls.length ≤ 70
    · cases hv : vldD ls with
      | false => exact order_w2 v v2 v3 ls xs ys a b s t f w sl sx sy hs h70 hv
      | true =>
        cases hab : (a == b) with
        | true => exact order_w3 v v2 v3 ls xs ys a b s t f w sl sx sy hs h70 hv hab
        | false =>
          by_cases hx : 0 ≤ idxD (fun e => e.t == b) xs
          · exact order_w4 v v2 v3 ls xs ys a b s t f w sl sx sy hs h70 hv hab hx
          · by_cases hy : 0 ≤ idxD (fun e => e.t == a) ys
            · exact order_w5 v v2 v3 ls xs ys a b s t f w sl sx sy hs h70 hv hab hx hy
            · exact order_on v v2 v3 ls xs ys a b s t f w sl sx sy hs h70 hv hab hx hy
    · exact order_w1 v v2 v3 ls xs ys a b s t f w sl sx sy hs (by omega)

end Go.Proofs.Ytheifmdaladfdaa
