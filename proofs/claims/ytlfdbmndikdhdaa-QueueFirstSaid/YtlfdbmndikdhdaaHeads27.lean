/- The contracts of package queue: Head, Full; of the reference: Head, Full, Same. -/
import Derived.Test.YtlfdbmndikdhdaaValid27
import Derived.Test.YtlfdbmndikdhdaaTup
namespace Go.Proofs.Ytlfdbmndikdhdaa
open Go.RowKit

theorem qvalid_lit (v : Value) (rs : List Rd) (x : Bool) (w : World) (sl : SlR w v rs) (h : vdB rs = x) :
    Calls Try.prog 24 #[.agg #[v]] w fun e w' => e = .returned (.bool x) ∧ Below w.heap.size w w' := by
  have := qvalid_any v rs w sl
  rwa [h] at this
theorem rqvalid_lit (v : Value) (rs : List Rd) (x : Bool) (w : World) (sl : SlR w v rs) (h : vdB rs = x) :
    Calls Try.prog 20 #[.agg #[v]] w fun e w' => e = .returned (.bool x) ∧ Below w.heap.size w w' := by
  have := rvalid_any v rs w sl
  rwa [h] at this

set_option linter.unusedVariables false in
set_option maxRecDepth 100000 in
set_option maxHeartbeats 2000000 in
theorem head_bad (v : Value) (rs : List Rd) (w : World) (sl : SlR w v rs) (hv : vdB rs = false) :
    Calls Try.prog 13 #[.agg #[v]] w fun e w' => e = .returned (.tuple #[.agg #[.int .i64 0, .int .i64 0, .int .i64 0, .int .i64 0, .int .i64 0], .bool false]) ∧ Below w.heap.size w w' := by
  have SL := Lib.hid (sl.below ((belowNew w (.cells #[v] 24)).alloc (by simp) (.cells #[.int .i64 0, .int .i64 0, .int .i64 0, .int .i64 0, .int .i64 0] 26)))
  obtain ⟨p, cap, rfl, hlc, hcm, parts⟩ := sl
  unfold maxLen at hcm
  have HV := Lib.hid hv
  clear hv parts
  go_enter Try.func13, Try.ntmps13
  go_wp2_with fail
  refine (qvalid_lit (.slice p rs.length cap) rs false _ SL.out HV.out).mono ?_
  rintro e w1 ⟨rfl, hb⟩
  have oQ : Own w1 w.heap.size [.slice p rs.length cap] 24 := ((own_at _ _ rfl).alloc _).below hb
  have oR : Own w1 (w.heap.size + 1) [.int .i64 0, .int .i64 0, .int .i64 0, .int .i64 0, .int .i64 0] 26 := (own_at _ _ (by simp)).below hb
  have bel := belowTo (((Below.refl w.heap.size w).alloc (by simp) _).alloc (by simp) _) hb (by simp; omega)
  clear hb 
  obtain ⟨cQ0, fQ, zQ⟩ := own1 oQ
  obtain ⟨cR0, cR1, cR2, cR3, cR4, fR, zR⟩ := own5r oR
  go_wp2
  refine bodyPost_ret (v := .tuple #[.agg #[.int .i64 0, .int .i64 0, .int .i64 0, .int .i64 0, .int .i64 0], .bool false]) (by simp [results, Try.results13, go_sem, *]) rfl ⟨rfl, ?_⟩
  repeat (first | (with_reducible exact bel) | (with_reducible refine belowSet ?_ _ _ _ ?_) | (with_reducible refine Below.drew ?_) | (with_reducible refine belowN ?_) | (with_reducible refine Below.alloc ?_ ?_ _))
  all_goals (first | omega | (simp; omega) | (simp; done) | (have := bel.size; simp; omega))

set_option linter.unusedVariables false in
set_option maxRecDepth 100000 in
set_option maxHeartbeats 2000000 in
theorem head_none (v : Value) (rs : List Rd) (w : World) (sl : SlR w v rs) (hv : vdB rs = true) (h0 : rs.length = 0) :
    Calls Try.prog 13 #[.agg #[v]] w fun e w' => e = .returned (.tuple #[.agg #[.int .i64 0, .int .i64 0, .int .i64 0, .int .i64 0, .int .i64 0], .bool false]) ∧ Below w.heap.size w w' := by
  have SL := Lib.hid (sl.below ((belowNew w (.cells #[v] 24)).alloc (by simp) (.cells #[.int .i64 0, .int .i64 0, .int .i64 0, .int .i64 0, .int .i64 0] 26)))
  obtain ⟨p, cap, rfl, hlc, hcm, parts⟩ := sl
  unfold maxLen at hcm
  have HV := Lib.hid hv
  have h1 : ((rs.length : Int) == 0) = true := by simp [h0]
  clear hv parts h0
  go_enter Try.func13, Try.ntmps13
  go_wp2_with fail
  refine (qvalid_lit (.slice p rs.length cap) rs true _ SL.out HV.out).mono ?_
  rintro e w1 ⟨rfl, hb⟩
  have oQ : Own w1 w.heap.size [.slice p rs.length cap] 24 := ((own_at _ _ rfl).alloc _).below hb
  have oR : Own w1 (w.heap.size + 1) [.int .i64 0, .int .i64 0, .int .i64 0, .int .i64 0, .int .i64 0] 26 := (own_at _ _ (by simp)).below hb
  have bel := belowTo (((Below.refl w.heap.size w).alloc (by simp) _).alloc (by simp) _) hb (by simp; omega)
  clear hb 
  obtain ⟨cQ0, fQ, zQ⟩ := own1 oQ
  obtain ⟨cR0, cR1, cR2, cR3, cR4, fR, zR⟩ := own5r oR
  go_wp2
  refine bodyPost_ret (v := .tuple #[.agg #[.int .i64 0, .int .i64 0, .int .i64 0, .int .i64 0, .int .i64 0], .bool false]) (by simp [results, Try.results13, go_sem, *]) rfl ⟨rfl, ?_⟩
  repeat (first | (with_reducible exact bel) | (with_reducible refine belowSet ?_ _ _ _ ?_) | (with_reducible refine Below.drew ?_) | (with_reducible refine belowN ?_) | (with_reducible refine Below.alloc ?_ ?_ _))
  all_goals (first | omega | (simp; omega) | (simp; done) | (have := bel.size; simp; omega))

set_option linter.unusedVariables false in
set_option maxRecDepth 100000 in
set_option maxHeartbeats 2000000 in
theorem head_yes (v : Value) (rs : List Rd) (r : Rd) (w : World) (sl : SlR w v rs) (hv : vdB rs = true) (hr : rs[0]? = some r) :
    Calls Try.prog 13 #[.agg #[v]] w fun e w' => e = .returned (.tuple #[.agg #[.int .i64 r.o, .int .i64 r.n, .int .i64 r.k, .int .i64 r.v, .int .i64 r.a], .bool true]) ∧ Below w.heap.size w w' := by
  have SL := Lib.hid (sl.below ((belowNew w (.cells #[v] 24)).alloc (by simp) (.cells #[.int .i64 0, .int .i64 0, .int .i64 0, .int .i64 0, .int .i64 0] 26)))
  obtain ⟨p, cap, rfl, hlc, hcm, parts⟩ := sl
  unfold maxLen at hcm
  have HV := Lib.hid hv
  have h0 : 0 < rs.length := (List.getElem?_eq_some_iff.1 hr).1
  have h1 : ((rs.length : Int) == 0) = false := beq_eq_false_iff_ne.2 (by omega)
  have h2 : (0 : Int) < (rs.length : Int) := by omega
  clear hv
  go_enter Try.func13, Try.ntmps13
  go_wp2_with fail
  refine (qvalid_lit (.slice p rs.length cap) rs true _ SL.out HV.out).mono ?_
  rintro e w1 ⟨rfl, hb⟩
  have oQ : Own w1 w.heap.size [.slice p rs.length cap] 24 := ((own_at _ _ rfl).alloc _).below hb
  have oR : Own w1 (w.heap.size + 1) [.int .i64 0, .int .i64 0, .int .i64 0, .int .i64 0, .int .i64 0] 26 := (own_at _ _ (by simp)).below hb
  have bel := belowTo (((Below.refl w.heap.size w).alloc (by simp) _).alloc (by simp) _) hb (by simp; omega)
  clear hb 
  obtain ⟨cQ0, fQ, zQ⟩ := own1 oQ
  obtain ⟨cR0, cR1, cR2, cR3, cR4, fR, zR⟩ := own5r oR
  obtain ⟨r', b, off, hr', rfl, hbl, d0, d1, d2, d3, d4⟩ := SlR.at parts bel h0
  obtain rfl : r = r' := by rw [hr] at hr'; exact Option.some.inj hr'
  simp only [Nat.zero_mul, Nat.add_zero] at d0 d1 d2 d3 d4
  clear hr hr' parts
  go_wp2
  refine bodyPost_ret (v := .tuple #[.agg #[.int .i64 r.o, .int .i64 r.n, .int .i64 r.k, .int .i64 r.v, .int .i64 r.a], .bool true]) (by simp [results, Try.results13, go_sem, *]) rfl ⟨rfl, ?_⟩
  repeat (first | (with_reducible exact bel) | (with_reducible refine belowSet ?_ _ _ _ ?_) | (with_reducible refine Below.drew ?_) | (with_reducible refine belowN ?_) | (with_reducible refine Below.alloc ?_ ?_ _))
  all_goals (first | omega | (simp; omega) | (simp; done) | (have := bel.size; simp; omega))

set_option linter.unusedVariables false in
set_option maxRecDepth 100000 in
set_option maxHeartbeats 2000000 in
theorem rhead_bad (v : Value) (rs : List Rd) (w : World) (sl : SlR w v rs) (hv : vdB rs = false) :
    Calls Try.prog 14 #[.agg #[v]] w fun e w' => e = .returned (.tuple #[.agg #[.int .i64 0, .int .i64 0, .int .i64 0, .int .i64 0, .int .i64 0], .bool false]) ∧ Below w.heap.size w w' := by
  have SL := Lib.hid (sl.below ((belowNew w (.cells #[v] 24)).alloc (by simp) (.cells #[.int .i64 0, .int .i64 0, .int .i64 0, .int .i64 0, .int .i64 0] 26)))
  obtain ⟨p, cap, rfl, hlc, hcm, parts⟩ := sl
  unfold maxLen at hcm
  have HV := Lib.hid hv
  clear hv parts
  go_enter Try.func14, Try.ntmps14
  go_wp2_with fail
  refine (rqvalid_lit (.slice p rs.length cap) rs false _ SL.out HV.out).mono ?_
  rintro e w1 ⟨rfl, hb⟩
  have oQ : Own w1 w.heap.size [.slice p rs.length cap] 24 := ((own_at _ _ rfl).alloc _).below hb
  have oR : Own w1 (w.heap.size + 1) [.int .i64 0, .int .i64 0, .int .i64 0, .int .i64 0, .int .i64 0] 26 := (own_at _ _ (by simp)).below hb
  have bel := belowTo (((Below.refl w.heap.size w).alloc (by simp) _).alloc (by simp) _) hb (by simp; omega)
  clear hb 
  obtain ⟨cQ0, fQ, zQ⟩ := own1 oQ
  obtain ⟨cR0, cR1, cR2, cR3, cR4, fR, zR⟩ := own5r oR
  go_wp2
  refine bodyPost_ret (v := .tuple #[.agg #[.int .i64 0, .int .i64 0, .int .i64 0, .int .i64 0, .int .i64 0], .bool false]) (by simp [results, Try.results14, go_sem, *]) rfl ⟨rfl, ?_⟩
  repeat (first | (with_reducible exact bel) | (with_reducible refine belowSet ?_ _ _ _ ?_) | (with_reducible refine Below.drew ?_) | (with_reducible refine belowN ?_) | (with_reducible refine Below.alloc ?_ ?_ _))
  all_goals (first | omega | (simp; omega) | (simp; done) | (have := bel.size; simp; omega))

set_option linter.unusedVariables false in
set_option maxRecDepth 100000 in
set_option maxHeartbeats 2000000 in
theorem rhead_none (v : Value) (rs : List Rd) (w : World) (sl : SlR w v rs) (hv : vdB rs = true) (h0 : rs.length = 0) :
    Calls Try.prog 14 #[.agg #[v]] w fun e w' => e = .returned (.tuple #[.agg #[.int .i64 0, .int .i64 0, .int .i64 0, .int .i64 0, .int .i64 0], .bool false]) ∧ Below w.heap.size w w' := by
  have SL := Lib.hid (sl.below ((belowNew w (.cells #[v] 24)).alloc (by simp) (.cells #[.int .i64 0, .int .i64 0, .int .i64 0, .int .i64 0, .int .i64 0] 26)))
  obtain ⟨p, cap, rfl, hlc, hcm, parts⟩ := sl
  unfold maxLen at hcm
  have HV := Lib.hid hv
  have h1 : ((rs.length : Int) == 0) = true := by simp [h0]
  clear hv parts h0
  go_enter Try.func14, Try.ntmps14
  go_wp2_with fail
  refine (rqvalid_lit (.slice p rs.length cap) rs true _ SL.out HV.out).mono ?_
  rintro e w1 ⟨rfl, hb⟩
  have oQ : Own w1 w.heap.size [.slice p rs.length cap] 24 := ((own_at _ _ rfl).alloc _).below hb
  have oR : Own w1 (w.heap.size + 1) [.int .i64 0, .int .i64 0, .int .i64 0, .int .i64 0, .int .i64 0] 26 := (own_at _ _ (by simp)).below hb
  have bel := belowTo (((Below.refl w.heap.size w).alloc (by simp) _).alloc (by simp) _) hb (by simp; omega)
  clear hb 
  obtain ⟨cQ0, fQ, zQ⟩ := own1 oQ
  obtain ⟨cR0, cR1, cR2, cR3, cR4, fR, zR⟩ := own5r oR
  go_wp2
  refine bodyPost_ret (v := .tuple #[.agg #[.int .i64 0, .int .i64 0, .int .i64 0, .int .i64 0, .int .i64 0], .bool false]) (by simp [results, Try.results14, go_sem, *]) rfl ⟨rfl, ?_⟩
  repeat (first | (with_reducible exact bel) | (with_reducible refine belowSet ?_ _ _ _ ?_) | (with_reducible refine Below.drew ?_) | (with_reducible refine belowN ?_) | (with_reducible refine Below.alloc ?_ ?_ _))
  all_goals (first | omega | (simp; omega) | (simp; done) | (have := bel.size; simp; omega))

set_option linter.unusedVariables false in
set_option maxRecDepth 100000 in
set_option maxHeartbeats 2000000 in
theorem rhead_yes (v : Value) (rs : List Rd) (r : Rd) (w : World) (sl : SlR w v rs) (hv : vdB rs = true) (hr : rs[0]? = some r) :
    Calls Try.prog 14 #[.agg #[v]] w fun e w' => e = .returned (.tuple #[.agg #[.int .i64 r.o, .int .i64 r.n, .int .i64 r.k, .int .i64 r.v, .int .i64 r.a], .bool true]) ∧ Below w.heap.size w w' := by
  have SL := Lib.hid (sl.below ((belowNew w (.cells #[v] 24)).alloc (by simp) (.cells #[.int .i64 0, .int .i64 0, .int .i64 0, .int .i64 0, .int .i64 0] 26)))
  obtain ⟨p, cap, rfl, hlc, hcm, parts⟩ := sl
  unfold maxLen at hcm
  have HV := Lib.hid hv
  have h0 : 0 < rs.length := (List.getElem?_eq_some_iff.1 hr).1
  have h1 : ((rs.length : Int) == 0) = false := beq_eq_false_iff_ne.2 (by omega)
  have h2 : (0 : Int) < (rs.length : Int) := by omega
  clear hv
  go_enter Try.func14, Try.ntmps14
  go_wp2_with fail
  refine (rqvalid_lit (.slice p rs.length cap) rs true _ SL.out HV.out).mono ?_
  rintro e w1 ⟨rfl, hb⟩
  have oQ : Own w1 w.heap.size [.slice p rs.length cap] 24 := ((own_at _ _ rfl).alloc _).below hb
  have oR : Own w1 (w.heap.size + 1) [.int .i64 0, .int .i64 0, .int .i64 0, .int .i64 0, .int .i64 0] 26 := (own_at _ _ (by simp)).below hb
  have bel := belowTo (((Below.refl w.heap.size w).alloc (by simp) _).alloc (by simp) _) hb (by simp; omega)
  clear hb 
  obtain ⟨cQ0, fQ, zQ⟩ := own1 oQ
  obtain ⟨cR0, cR1, cR2, cR3, cR4, fR, zR⟩ := own5r oR
  obtain ⟨r', b, off, hr', rfl, hbl, d0, d1, d2, d3, d4⟩ := SlR.at parts bel h0
  obtain rfl : r = r' := by rw [hr] at hr'; exact Option.some.inj hr'
  simp only [Nat.zero_mul, Nat.add_zero] at d0 d1 d2 d3 d4
  clear hr hr' parts
  go_wp2
  refine bodyPost_ret (v := .tuple #[.agg #[.int .i64 r.o, .int .i64 r.n, .int .i64 r.k, .int .i64 r.v, .int .i64 r.a], .bool true]) (by simp [results, Try.results14, go_sem, *]) rfl ⟨rfl, ?_⟩
  repeat (first | (with_reducible exact bel) | (with_reducible refine belowSet ?_ _ _ _ ?_) | (with_reducible refine Below.drew ?_) | (with_reducible refine belowN ?_) | (with_reducible refine Below.alloc ?_ ?_ _))
  all_goals (first | omega | (simp; omega) | (simp; done) | (have := bel.size; simp; omega))

set_option linter.unusedVariables false in
set_option maxRecDepth 100000 in
set_option maxHeartbeats 2000000 in
theorem full_any (v : Value) (rs : List Rd) (w : World) (sl : SlR w v rs) :
    Calls Try.prog 18 #[.agg #[v]] w fun e w' => e = .returned (.bool (vdB rs && decide (14 ≤ rs.length))) ∧ Below w.heap.size w w' := by
  have SL := Lib.hid (sl.below (belowNew w (.cells #[v] 24)))
  obtain ⟨p, cap, rfl, hlc, hcm, parts⟩ := sl
  unfold maxLen at hcm
  clear parts
  cases hv : vdB rs with
  | false =>
    have HV := Lib.hid hv
    clear hv
    go_enter Try.func18, Try.ntmps18
    go_wp2_with fail
    refine (qvalid_lit (.slice p rs.length cap) rs false _ SL.out HV.out).mono ?_
    rintro e w1 ⟨rfl, hb⟩
    have oQ : Own w1 w.heap.size [.slice p rs.length cap] 24 := (own_at _ _ rfl).below hb
    have bel := belowTo ((Below.refl w.heap.size w).alloc (by simp) _) hb (by simp)
    clear hb 
    obtain ⟨cQ0, fQ, zQ⟩ := own1 oQ
    go_wp2
    go_ret
    exact ⟨ret_bool (by simp), bel⟩
  | true =>
    have HV := Lib.hid hv
    clear hv
    go_enter Try.func18, Try.ntmps18
    go_wp2_with fail
    refine (qvalid_lit (.slice p rs.length cap) rs true _ SL.out HV.out).mono ?_
    rintro e w1 ⟨rfl, hb⟩
    have oQ : Own w1 w.heap.size [.slice p rs.length cap] 24 := (own_at _ _ rfl).below hb
    have bel := belowTo ((Below.refl w.heap.size w).alloc (by simp) _) hb (by simp)
    clear hb 
    obtain ⟨cQ0, fQ, zQ⟩ := own1 oQ
    go_wp2
    all_goals (go_ret; exact ⟨ret_bool (by simp; try omega), bel⟩)

set_option linter.unusedVariables false in
set_option maxRecDepth 100000 in
set_option maxHeartbeats 2000000 in
theorem rfull_any (v : Value) (rs : List Rd) (w : World) (sl : SlR w v rs) :
    Calls Try.prog 19 #[.agg #[v]] w fun e w' => e = .returned (.bool (vdB rs && decide (14 ≤ rs.length))) ∧ Below w.heap.size w w' := by
  have SL := Lib.hid (sl.below (belowNew w (.cells #[v] 24)))
  obtain ⟨p, cap, rfl, hlc, hcm, parts⟩ := sl
  unfold maxLen at hcm
  clear parts
  cases hv : vdB rs with
  | false =>
    have HV := Lib.hid hv
    clear hv
    go_enter Try.func19, Try.ntmps19
    go_wp2_with fail
    refine (rqvalid_lit (.slice p rs.length cap) rs false _ SL.out HV.out).mono ?_
    rintro e w1 ⟨rfl, hb⟩
    have oQ : Own w1 w.heap.size [.slice p rs.length cap] 24 := (own_at _ _ rfl).below hb
    have bel := belowTo ((Below.refl w.heap.size w).alloc (by simp) _) hb (by simp)
    clear hb 
    obtain ⟨cQ0, fQ, zQ⟩ := own1 oQ
    go_wp2
    go_ret
    exact ⟨ret_bool (by simp), bel⟩
  | true =>
    have HV := Lib.hid hv
    clear hv
    go_enter Try.func19, Try.ntmps19
    go_wp2_with fail
    refine (rqvalid_lit (.slice p rs.length cap) rs true _ SL.out HV.out).mono ?_
    rintro e w1 ⟨rfl, hb⟩
    have oQ : Own w1 w.heap.size [.slice p rs.length cap] 24 := (own_at _ _ rfl).below hb
    have bel := belowTo ((Below.refl w.heap.size w).alloc (by simp) _) hb (by simp)
    clear hb 
    obtain ⟨cQ0, fQ, zQ⟩ := own1 oQ
    go_wp2
    all_goals (go_ret; exact ⟨ret_bool (by simp; try omega), bel⟩)

/-- Two readings are equal. -/
def eqR (r s : Rd) : Bool := r.o == s.o && (r.n == s.n && (r.k == s.k && (r.v == s.v && r.a == s.a)))
theorem eqR_iff {r s : Rd} : eqR r s = true ↔ r = s := by
  obtain ⟨a, b, c, d, e⟩ := r
  obtain ⟨a', b', c', d', e'⟩ := s
  simp [eqR]
def sameFrom : List Rd → List Rd → Bool
  | r :: rs, s :: ss => eqR r s && sameFrom rs ss
  | [], [] => true
  | _, _ => false
theorem same_iff : ∀ {rs ss : List Rd}, sameFrom rs ss = true ↔ rs = ss
  | [], [] => by simp [sameFrom]
  | [], _ :: _ => by simp [sameFrom]
  | _ :: _, [] => by simp [sameFrom]
  | r :: rs, s :: ss => by simp [sameFrom, eqR_iff, same_iff (rs := rs) (ss := ss)]
theorem same_len : ∀ {rs ss : List Rd}, rs.length ≠ ss.length → sameFrom rs ss = false
  | rs, ss, h => by
    cases e : sameFrom rs ss with
    | false => rfl
    | true => exact absurd (congrArg List.length (same_iff.1 e)) h

set_option maxRecDepth 100000 in
theorem ne_rd (r s : Rd) (x : Bool) (hx : eqR r s = x) (w : World) :
    (binOp .neq 26 (.agg #[.int .i64 r.o, .int .i64 r.n, .int .i64 r.k, .int .i64 r.v, .int .i64 r.a]) (.agg #[.int .i64 s.o, .int .i64 s.n, .int .i64 s.k, .int .i64 s.v, .int .i64 s.a])).run Try.prog w = .ok (.bool (!x)) w := by
  subst hx
  go_simp
  unfold eqR
  by_cases h0 : r.o = s.o
  · by_cases h1 : r.n = s.n
    · by_cases h2 : r.k = s.k
      · by_cases h3 : r.v = s.v
        · by_cases h4 : r.a = s.a <;> simp [h0, h1, h2, h3, h4]
        · simp [h0, h1, h2, h3]
      · simp [h0, h1, h2]
    · simp [h0, h1]
  · simp [h0]
set_option maxRecDepth 100000 in
theorem eq_rd (r s : Rd) (x : Bool) (hx : eqR r s = x) (w : World) :
    (binOp .eql 26 (.agg #[.int .i64 r.o, .int .i64 r.n, .int .i64 r.k, .int .i64 r.v, .int .i64 r.a]) (.agg #[.int .i64 s.o, .int .i64 s.n, .int .i64 s.k, .int .i64 s.v, .int .i64 s.a])).run Try.prog w = .ok (.bool x) w := by
  subst hx
  go_simp
  unfold eqR
  by_cases h0 : r.o = s.o
  · by_cases h1 : r.n = s.n
    · by_cases h2 : r.k = s.k
      · by_cases h3 : r.v = s.v
        · by_cases h4 : r.a = s.a <;> simp [h0, h1, h2, h3, h4]
        · simp [h0, h1, h2, h3]
      · simp [h0, h1, h2]
    · simp [h0, h1]
  · simp [h0]

set_option linter.unusedVariables false in
set_option maxRecDepth 100000 in
set_option maxHeartbeats 2000000 in
theorem same_any (u v : Value) (rs ss : List Rd) (w : World) (sl : SlR w u rs) (sm : SlR w v ss) :
    Calls Try.prog 15 #[.agg #[u], .agg #[v]] w fun e w' => e = .returned (.bool (sameFrom rs ss)) ∧ Below w.heap.size w w' := by
  obtain ⟨p, cap, rfl, hlc, hcm, parts⟩ := sl
  obtain ⟨p2, cap2, rfl, hlc2, hcm2, parts2⟩ := sm
  unfold maxLen at hcm hcm2
  by_cases hL : rs.length = ss.length
  · have hL1 : ((rs.length : Int) != (ss.length : Int)) = false := by simp [hL]
    have hL2 : ss.length ≤ rs.length := by omega
    have HL := Lib.hid hL
    clear hL
    go_enter Try.func15, Try.ntmps15
    go_wp2
    go_loopw [5] (fun i wr => ∃ k : Nat, k ≤ rs.length ∧ i = .int .i64 k ∧ Own wr w.heap.size [.slice p rs.length cap] 24 ∧ Own wr (w.heap.size + 1) [.slice p2 ss.length cap2] 24 ∧ Below w.heap.size w wr ∧ sameFrom rs ss = sameFrom (rs.drop k) (ss.drop k)) (fun i _ => rs.length - (intOf i).toNat)
    case atStart => exact ⟨0, Nat.zero_le _, rfl, (own_at _ _ rfl).alloc _, own_at _ _ (by simp), (belowNew w _).alloc (by simp) _, by simp⟩
    case round =>
      obtain ⟨k, hk, rfl, oQ, oU, bel, hF⟩ := hrel
      have HF := Lib.hid hF
      clear hF
      obtain ⟨cQ0, fQ, zQ⟩ := own1 oQ
      obtain ⟨cU0, fU, zU⟩ := own1 oU
      by_cases hlt : k < rs.length
      · obtain ⟨r, b, off, hr, rfl, hbl, d0, d1, d2, d3, d4⟩ := SlR.at parts bel hlt
        obtain ⟨s, b2, off2, hs, rfl, hbl2, g0, g1, g2, g3, g4⟩ := SlR.at parts2 bel (i := k) (by rw [← HL.out]; exact hlt)
        have i0 : (0 : Int) ≤ (k : Int) := Int.natCast_nonneg _
        have i1 : (k : Int) < (rs.length : Int) := by omega
        have i2 : (k : Int) < (ss.length : Int) := by rw [← HL.out]; omega
        have e1 : rs.drop k = r :: rs.drop (k + 1) := by
          rw [List.drop_eq_getElem_cons hlt, show rs[k] = r from (List.getElem?_eq_some_iff.1 hr).2]
        have hlt2 : k < ss.length := by rw [← HL.out]; exact hlt
        have e2 : ss.drop k = s :: ss.drop (k + 1) := by
          rw [List.drop_eq_getElem_cons hlt2, show ss[k] = s from (List.getElem?_eq_some_iff.1 hs).2]
        have HS := Lib.hid (show sameFrom (rs.drop k) (ss.drop k) = (eqR r s && sameFrom (rs.drop (k + 1)) (ss.drop (k + 1))) by rw [e1, e2]; rfl)
        clear e1 e2 hr hs parts parts2
        cases hx : eqR r s with
        | true =>
          have ne := ne_rd r s true hx
          have HX := Lib.hid hx
          clear hx
          go_wp2_with fail
          go_quiet (fail)
          go_wp2_with fail
          go_roundw
          case rel => exact ⟨k + 1, by omega, by go_num, oQ.drewN _, oU.drewN _, belowN bel, by rw [HF.out, HS.out, HX.out, Bool.true_and]⟩
          case measure => simp [intOf]; omega
        | false =>
          have ne := ne_rd r s false hx
          have HX := Lib.hid hx
          clear hx
          go_wp2_with fail
          go_quiet (fail)
          go_wp2_with fail
          go_ret
          exact ⟨ret_bool (by rw [HF.out, HS.out, HX.out]; rfl), belowN bel⟩
      · have HV := Lib.hid (show sameFrom (rs.drop k) (ss.drop k) = true by rw [List.drop_of_length_le (by omega), List.drop_of_length_le (by have := HL.out; omega)]; rfl)
        clear parts parts2
        go_wp2_with fail
        go_ret
        exact ⟨ret_bool (by rw [HF.out, HV.out]), bel⟩
  · have hL1 : ((rs.length : Int) != (ss.length : Int)) = true := by simp; omega
    have HL := Lib.hid (same_len hL)
    clear hL parts parts2
    go_enter Try.func15, Try.ntmps15
    go_wp2
    go_ret
    exact ⟨ret_bool HL.out.symm, (belowNew w _).alloc (by simp) _⟩

end Go.Proofs.Ytlfdbmndikdhdaa
