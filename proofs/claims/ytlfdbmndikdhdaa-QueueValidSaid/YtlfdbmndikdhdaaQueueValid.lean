/- QueueValid: the walk of the law. It returns true for every input, and leaves old memory alone. -/
import Derived.Test.YtlfdbmndikdhdaaHead27
import Derived.Test.YtlfdbmndikdhdaaOpen27
import Derived.Test.YtlfdbmndikdhdaaPlaces27
import Derived.Test.YtlfdbmndikdhdaaPlain27b
import Derived.WalkKit
import Derived.IntWalk
import Derived.Deep.RegionHeld3
namespace Go.Proofs.Ytlfdbmndikdhdaa
open Go.RowKit

theorem filt_step {f : Rd → Bool} {rs : List Rd} {i : Nat} {x : Rd} (h : rs[i]? = some x) : (rs.take (i + 1)).filter f = (rs.take i).filter f ++ if f x then [x] else [] := by
  have hi : i < rs.length := (List.getElem?_eq_some_iff.1 h).1
  rw [List.take_succ_eq_append_getElem hi, List.filter_append, show rs[i] = x from (List.getElem?_eq_some_iff.1 h).2]
  cases e : f x
  · rw [List.filter_cons_of_neg (by simp [e])]; rfl
  · rw [List.filter_cons_of_pos (by simp [e])]; rfl
theorem filt_at {f : Rd → Bool} {rs : List Rd} {i : Nat} {x : Rd} (h : rs[i]? = some x) (hf : f x = true) : (rs.filter f)[((rs.take i).filter f).length]? = some x := by
  have hi : i < rs.length := (List.getElem?_eq_some_iff.1 h).1
  have e : rs = rs.take i ++ x :: rs.drop (i + 1) := by
    conv => lhs; rw [← List.take_append_drop i rs]
    rw [List.drop_eq_getElem_cons hi, show rs[i] = x from (List.getElem?_eq_some_iff.1 h).2]
  have key : rs.filter f = (rs.take i).filter f ++ x :: (rs.drop (i + 1)).filter f := by
    conv => lhs; rw [e]
    rw [List.filter_append, List.filter_cons_of_pos hf]
  rw [key, List.getElem?_append_right (Nat.le_refl _), Nat.sub_self]
  rfl
theorem same_lit (u v : Value) (rs ss : List Rd) (x : Bool) (w : World) (sl : SlR w u rs) (sm : SlR w v ss) (h : sameFrom rs ss = x) :
    Calls Try.prog 15 #[.agg #[u], .agg #[v]] w fun e w' => e = .returned (.bool x) ∧ Below w.heap.size w w' := by
  have := same_any u v rs ss w sl sm
  rwa [h] at this

set_option linter.unusedVariables false in
set_option maxRecDepth 100000 in
set_option maxHeartbeats 2000000 in
theorem qv_long (v : Value) (rs : List Rd) (r : Rd) (me o n : Int) (w : World) (sl : SlR w v rs) (hs : decide (rs.length ≤ 40) = false) :
    Calls Try.prog 5 #[.agg #[v], .agg #[.int .i64 r.o, .int .i64 r.n, .int .i64 r.k, .int .i64 r.v, .int .i64 r.a], .int .i64 me, .int .i64 o, .int .i64 n] w fun e w' => e = .returned (.bool true) ∧ Below w.heap.size w w' := by
  obtain ⟨p, cap, rfl, hlc, hcm, parts⟩ := sl
  have SL0 := Lib.hid (show SlR w (.slice p rs.length cap) rs from ⟨p, cap, rfl, hlc, hcm, parts⟩)
  unfold maxLen at hcm
  clear parts
  have HS := Lib.hid hs
  clear hs
  go_enter Try.func5, Try.ntmps5
  go_wp2_with fail
  refine (head_true _).mono ?_
  rintro e w1 ⟨rfl, hb⟩
  have oQ : Own w1 w.heap.size [.slice p rs.length cap] 24 := ((own_at _ _ rfl).alloc _).below hb
  have oR : Own w1 (w.heap.size + 1) [.int .i64 r.o, .int .i64 r.n, .int .i64 r.k, .int .i64 r.v, .int .i64 r.a] 26 := (own_at _ _ (by simp)).below hb
  have bel := belowTo (((Below.refl w.heap.size w).alloc (by simp) _).alloc (by simp) _) hb (by simp; omega)
  clear hb
  obtain ⟨cQ0, fQ, zQ⟩ := own1 oQ
  obtain ⟨cR0, cR1, cR2, cR3, cR4, fR, zR⟩ := own5r oR
  have SL := Lib.hid (SL0.out.below bel)
  go_wp2_with fail
  refine (short_lit (.slice p rs.length cap) rs false _ SL.out HS.out).mono ?_
  rintro e w2 ⟨rfl, hb⟩
  replace oQ := oQ.below hb
  replace oR := oR.below hb
  replace SL := Lib.hid (SL.out.below hb)
  replace bel := belowTo bel hb (by exact bel.size)
  clear hb
  clear cQ0 fQ zQ cR0 cR1 cR2 cR3 cR4 fR zR
  obtain ⟨cQ0, fQ, zQ⟩ := own1 oQ
  obtain ⟨cR0, cR1, cR2, cR3, cR4, fR, zR⟩ := own5r oR
  go_wp2
  all_goals (go_ret; exact ⟨ret_bool (by simp <;> omega), bel⟩)

set_option linter.unusedVariables false in
set_option maxRecDepth 100000 in
set_option maxHeartbeats 2000000 in
theorem qv_bad (v : Value) (rs : List Rd) (r : Rd) (me o n : Int) (w : World) (sl : SlR w v rs) (hs : decide (rs.length ≤ 40) = true) (hv : vdB rs = false) :
    Calls Try.prog 5 #[.agg #[v], .agg #[.int .i64 r.o, .int .i64 r.n, .int .i64 r.k, .int .i64 r.v, .int .i64 r.a], .int .i64 me, .int .i64 o, .int .i64 n] w fun e w' => e = .returned (.bool true) ∧ Below w.heap.size w w' := by
  obtain ⟨p, cap, rfl, hlc, hcm, parts⟩ := sl
  have SL0 := Lib.hid (show SlR w (.slice p rs.length cap) rs from ⟨p, cap, rfl, hlc, hcm, parts⟩)
  unfold maxLen at hcm
  clear parts
  have HS := Lib.hid hs
  clear hs
  have HV := Lib.hid hv
  clear hv
  go_enter Try.func5, Try.ntmps5
  go_wp2_with fail
  refine (head_true _).mono ?_
  rintro e w1 ⟨rfl, hb⟩
  have oQ : Own w1 w.heap.size [.slice p rs.length cap] 24 := ((own_at _ _ rfl).alloc _).below hb
  have oR : Own w1 (w.heap.size + 1) [.int .i64 r.o, .int .i64 r.n, .int .i64 r.k, .int .i64 r.v, .int .i64 r.a] 26 := (own_at _ _ (by simp)).below hb
  have bel := belowTo (((Below.refl w.heap.size w).alloc (by simp) _).alloc (by simp) _) hb (by simp; omega)
  clear hb
  obtain ⟨cQ0, fQ, zQ⟩ := own1 oQ
  obtain ⟨cR0, cR1, cR2, cR3, cR4, fR, zR⟩ := own5r oR
  have SL := Lib.hid (SL0.out.below bel)
  go_wp2_with fail
  refine (short_lit (.slice p rs.length cap) rs true _ SL.out HS.out).mono ?_
  rintro e w2 ⟨rfl, hb⟩
  replace oQ := oQ.below hb
  replace oR := oR.below hb
  replace SL := Lib.hid (SL.out.below hb)
  replace bel := belowTo bel hb (by exact bel.size)
  clear hb
  clear cQ0 fQ zQ cR0 cR1 cR2 cR3 cR4 fR zR
  obtain ⟨cQ0, fQ, zQ⟩ := own1 oQ
  obtain ⟨cR0, cR1, cR2, cR3, cR4, fR, zR⟩ := own5r oR
  go_wp2_with fail
  refine (rqvalid_lit (.slice p rs.length cap) rs false _ SL.out HV.out).mono ?_
  rintro e w3 ⟨rfl, hb⟩
  replace oQ := oQ.below hb
  replace oR := oR.below hb
  replace SL := Lib.hid (SL.out.below hb)
  replace bel := belowTo bel hb (by exact bel.size)
  clear hb
  clear cQ0 fQ zQ cR0 cR1 cR2 cR3 cR4 fR zR
  obtain ⟨cQ0, fQ, zQ⟩ := own1 oQ
  obtain ⟨cR0, cR1, cR2, cR3, cR4, fR, zR⟩ := own5r oR
  go_wp2
  all_goals (go_ret; exact ⟨ret_bool (by simp <;> omega), bel⟩)

set_option linter.unusedVariables false in
set_option maxRecDepth 100000 in
set_option maxHeartbeats 2000000 in
theorem qv_main (v : Value) (rs : List Rd) (r : Rd) (me o n : Int) (w : World) (sl : SlR w v rs) (hs : decide (rs.length ≤ 40) = true) (hv : vdB rs = true) (ds : List Rd) (hds : dropL rs o n = ds) :
    Calls Try.prog 5 #[.agg #[v], .agg #[.int .i64 r.o, .int .i64 r.n, .int .i64 r.k, .int .i64 r.v, .int .i64 r.a], .int .i64 me, .int .i64 o, .int .i64 n] w fun e w' => e = .returned (.bool true) ∧ Below w.heap.size w w' := by
  obtain ⟨p, cap, rfl, hlc, hcm, parts⟩ := sl
  have SL0 := Lib.hid (show SlR w (.slice p rs.length cap) rs from ⟨p, cap, rfl, hlc, hcm, parts⟩)
  unfold maxLen at hcm
  clear parts
  have HS := Lib.hid hs
  clear hs
  have HV := Lib.hid hv
  clear hv
  have HDS := Lib.hid hds
  clear hds
  go_enter Try.func5, Try.ntmps5
  go_wp2_with fail
  refine (head_true _).mono ?_
  rintro e w1 ⟨rfl, hb⟩
  have oQ : Own w1 w.heap.size [.slice p rs.length cap] 24 := ((own_at _ _ rfl).alloc _).below hb
  have oR : Own w1 (w.heap.size + 1) [.int .i64 r.o, .int .i64 r.n, .int .i64 r.k, .int .i64 r.v, .int .i64 r.a] 26 := (own_at _ _ (by simp)).below hb
  have bel := belowTo (((Below.refl w.heap.size w).alloc (by simp) _).alloc (by simp) _) hb (by simp; omega)
  clear hb
  obtain ⟨cQ0, fQ, zQ⟩ := own1 oQ
  obtain ⟨cR0, cR1, cR2, cR3, cR4, fR, zR⟩ := own5r oR
  have SL := Lib.hid (SL0.out.below bel)
  go_wp2_with fail
  refine (short_lit (.slice p rs.length cap) rs true _ SL.out HS.out).mono ?_
  rintro e w2 ⟨rfl, hb⟩
  replace oQ := oQ.below hb
  replace oR := oR.below hb
  replace SL := Lib.hid (SL.out.below hb)
  replace bel := belowTo bel hb (by exact bel.size)
  clear hb
  clear cQ0 fQ zQ cR0 cR1 cR2 cR3 cR4 fR zR
  obtain ⟨cQ0, fQ, zQ⟩ := own1 oQ
  obtain ⟨cR0, cR1, cR2, cR3, cR4, fR, zR⟩ := own5r oR
  go_wp2_with fail
  refine (rqvalid_lit (.slice p rs.length cap) rs true _ SL.out HV.out).mono ?_
  rintro e w3 ⟨rfl, hb⟩
  replace oQ := oQ.below hb
  replace oR := oR.below hb
  replace SL := Lib.hid (SL.out.below hb)
  replace bel := belowTo bel hb (by exact bel.size)
  clear hb
  clear cQ0 fQ zQ cR0 cR1 cR2 cR3 cR4 fR zR
  obtain ⟨cQ0, fQ, zQ⟩ := own1 oQ
  obtain ⟨cR0, cR1, cR2, cR3, cR4, fR, zR⟩ := own5r oR
  go_wp2_with fail
  refine (drop_lit (.slice p rs.length cap) rs o n ds _ SL.out HDS.out).mono ?_
  rintro e w4 ⟨vd, rfl, sD, _, hb⟩
  replace oQ := oQ.below hb
  replace oR := oR.below hb
  replace SL := Lib.hid (SL.out.below hb)
  replace bel := belowTo bel hb (by exact bel.size)
  clear hb
  clear cQ0 fQ zQ cR0 cR1 cR2 cR3 cR4 fR zR
  obtain ⟨cQ0, fQ, zQ⟩ := own1 oQ
  obtain ⟨cR0, cR1, cR2, cR3, cR4, fR, zR⟩ := own5r oR
  have SD := Lib.hid sD
  obtain ⟨pd, capd, rfl⟩ := slr_form _ sD rfl
  clear sD
  go_wp2_with fail
  have oD : Own (w4.alloc (Obj.cells #[.slice pd ds.length capd] 24)) w4.heap.size [.slice pd ds.length capd] 24 := own_at _ _ rfl
  replace oQ := oQ.alloc (Obj.cells #[.slice pd ds.length capd] 24)
  replace oR := oR.alloc (Obj.cells #[.slice pd ds.length capd] 24)
  replace SL := Lib.hid (SL.out.below (belowNew w4 (Obj.cells #[.slice pd ds.length capd] 24)))
  replace SD := Lib.hid (SD.out.below (belowNew w4 (Obj.cells #[.slice pd ds.length capd] 24)))
  replace bel := bel.alloc bel.size (Obj.cells #[.slice pd ds.length capd] 24)
  clear cQ0 fQ zQ cR0 cR1 cR2 cR3 cR4 fR zR
  generalize w4.alloc (Obj.cells #[.slice pd ds.length capd] 24) = w5 at oQ oR oD SL SD bel ⊢
  obtain ⟨cQ0, fQ, zQ⟩ := own1 oQ
  obtain ⟨cR0, cR1, cR2, cR3, cR4, fR, zR⟩ := own5r oR
  obtain ⟨cD0, fD, zD⟩ := own1 oD
  go_wp2
  go_loopw [13, 35] (fun kk ii wr => ∃ (i k : Nat), i ≤ rs.length ∧ ii = .int .i64 i ∧ kk = .int .i64 k ∧ k = ((rs.take i).filter (fun x => !isB o n x)).length ∧ Own wr w.heap.size [.slice p rs.length cap] 24 ∧ Own wr (w.heap.size + 1) [.int .i64 r.o, .int .i64 r.n, .int .i64 r.k, .int .i64 r.v, .int .i64 r.a] 26 ∧ Own wr w4.heap.size [.slice pd ds.length capd] 24 ∧ Below w.heap.size w wr ∧ SlR wr (.slice p rs.length cap) rs ∧ SlR wr (.slice pd ds.length capd) ds) (fun _ i _ => rs.length - (intOf i).toNat)
  case atStart => exact ⟨0, 0, by omega, rfl, rfl, by simp, oQ, oR, oD, bel, SL.out, SD.out⟩
  case round =>
    clear cQ0 fQ zQ cR0 cR1 cR2 cR3 cR4 fR zR cD0 fD zD SL SD bel oQ oR oD
    obtain ⟨i, k, hi, rfl, rfl, hk, oQ, oR, oD, bel, sl, sd⟩ := hrel
    have HK := Lib.hid hk
    have SL := Lib.hid sl
    have SD := Lib.hid sd
    have hkl : k ≤ 40 := by have h1 := List.length_filter_le (fun x => !isB o n x) (rs.take i); have h2 := List.length_take_le' i rs; have h3 := HS.out; simp at h3; omega
    clear hk
    obtain ⟨p1, cap1, e1, hlc1, hcm1, parts⟩ := sl
    obtain ⟨p2, cap2, e2, hlc2, hcm2, parts2⟩ := sd
    unfold maxLen at hcm1 hcm2
    cases e1; cases e2
    obtain ⟨cQ0, fQ, zQ⟩ := own1 oQ
    obtain ⟨cR0, cR1, cR2, cR3, cR4, fR, zR⟩ := own5r oR
    obtain ⟨cD0, fD, zD⟩ := own1 oD
    by_cases hlt : i < rs.length
    · obtain ⟨x, b, off, hx, rfl, hbl, d0, d1, d2, d3, d4⟩ := SlR.at parts (Below.refl _ _) hlt
      have i0 : (0 : Int) ≤ (i : Int) := Int.natCast_nonneg _
      have i1 : (i : Int) < (rs.length : Int) := by omega
      have HX := Lib.hid hx
      clear parts hx
      cases hb : isB o n x with
      | true =>
        have q1 : (x.o == o) = true := by rw [isB_iff] at hb; simp [hb.1]
        have q2 : (x.n == n) = true := by rw [isB_iff] at hb; simp [hb.2]
        have HB := Lib.hid hb
        clear hb
        go_wp2
        go_roundw
        case rel => exact ⟨i + 1, k, by omega, by go_num, rfl, by rw [filt_step HX.out, HB.out]; simp [HK.out], oQ.alloc _, oR.alloc _, oD.alloc _, bel.alloc bel.size _, SL.out.below (belowNew _ _), SD.out.below (belowNew _ _)⟩
        case measure => simp [intOf]; omega
      | false =>
        have HN := Lib.hid (show k < ds.length ∧ ds[k]? = some x by have h := filt_at (f := fun x => !isB o n x) HX.out (by simp [hb]); rw [← drop_filter HV.out, HDS.out, ← HK.out] at h; exact ⟨(List.getElem?_eq_some_iff.1 h).1, h⟩)
        have HB := Lib.hid hb
        rw [isB_false] at hb
        have k0 : decide (ds.length ≤ k) = false := decide_eq_false (by have := HN.out.1; omega)
        have k1 : (0 : Int) ≤ (k : Int) := Int.natCast_nonneg _
        have k2 : (k : Int) < (ds.length : Int) := by have := HN.out.1; omega
        have ne := ne_rd x x true (eqR_iff.2 rfl)
        by_cases q : x.o = o
        · have q1 : (x.o == o) = true := by simp [q]
          have q2 : (x.n == n) = false := by simp; exact fun h => hb ⟨q, h⟩
          clear hb q
          go_wp2_with fail
          have oE : Own (wr.alloc (Obj.cells #[.int .i64 x.o, .int .i64 x.n, .int .i64 x.k, .int .i64 x.v, .int .i64 x.a] 26)) wr.heap.size [.int .i64 x.o, .int .i64 x.n, .int .i64 x.k, .int .i64 x.v, .int .i64 x.a] 26 := own_at _ _ rfl
          replace oQ := oQ.alloc (Obj.cells #[.int .i64 x.o, .int .i64 x.n, .int .i64 x.k, .int .i64 x.v, .int .i64 x.a] 26)
          replace oR := oR.alloc (Obj.cells #[.int .i64 x.o, .int .i64 x.n, .int .i64 x.k, .int .i64 x.v, .int .i64 x.a] 26)
          replace oD := oD.alloc (Obj.cells #[.int .i64 x.o, .int .i64 x.n, .int .i64 x.k, .int .i64 x.v, .int .i64 x.a] 26)
          replace SL := Lib.hid (SL.out.below (belowNew wr (Obj.cells #[.int .i64 x.o, .int .i64 x.n, .int .i64 x.k, .int .i64 x.v, .int .i64 x.a] 26)))
          replace SD := Lib.hid (SD.out.below (belowNew wr (Obj.cells #[.int .i64 x.o, .int .i64 x.n, .int .i64 x.k, .int .i64 x.v, .int .i64 x.a] 26)))
          replace bel := bel.alloc bel.size (Obj.cells #[.int .i64 x.o, .int .i64 x.n, .int .i64 x.k, .int .i64 x.v, .int .i64 x.a] 26)
          clear cQ0 fQ zQ cR0 cR1 cR2 cR3 cR4 fR zR cD0 fD zD
          generalize wr.alloc (Obj.cells #[.int .i64 x.o, .int .i64 x.n, .int .i64 x.k, .int .i64 x.v, .int .i64 x.a] 26) = w6 at oQ oR oD oE SL SD bel ⊢
          obtain ⟨cQ0, fQ, zQ⟩ := own1 oQ
          obtain ⟨cR0, cR1, cR2, cR3, cR4, fR, zR⟩ := own5r oR
          obtain ⟨cD0, fD, zD⟩ := own1 oD
          obtain ⟨cE0, cE1, cE2, cE3, cE4, fE, zE⟩ := own5r oE
          obtain ⟨p3, cap3, e3, _, _, parts3⟩ := SD.out
          cases e3
          obtain ⟨x', b2, off2, hx', rfl, hbl2, g0, g1, g2, g3, g4⟩ := SlR.at parts3 (Below.refl _ _) HN.out.1
          obtain rfl : x = x' := by have := HN.out.2; rw [hx'] at this; exact (Option.some.inj this).symm
          clear hx' parts3
          go_quiet (fail)
          go_wp2_with fail
          go_roundw
          case rel => exact ⟨i + 1, k + 1, by omega, by go_num, by go_num, by rw [filt_step HX.out, HB.out]; simp [HK.out], oQ.drewN _, oR.drewN _, oD.drewN _, belowN bel, SL.out.below (belowN (Below.refl _ _)), SD.out.below (belowN (Below.refl _ _))⟩
          case measure => simp [intOf]; omega
        · have q1 : (x.o == o) = false := by simp [q]
          clear hb q
          go_wp2_with fail
          have oE : Own (wr.alloc (Obj.cells #[.int .i64 x.o, .int .i64 x.n, .int .i64 x.k, .int .i64 x.v, .int .i64 x.a] 26)) wr.heap.size [.int .i64 x.o, .int .i64 x.n, .int .i64 x.k, .int .i64 x.v, .int .i64 x.a] 26 := own_at _ _ rfl
          replace oQ := oQ.alloc (Obj.cells #[.int .i64 x.o, .int .i64 x.n, .int .i64 x.k, .int .i64 x.v, .int .i64 x.a] 26)
          replace oR := oR.alloc (Obj.cells #[.int .i64 x.o, .int .i64 x.n, .int .i64 x.k, .int .i64 x.v, .int .i64 x.a] 26)
          replace oD := oD.alloc (Obj.cells #[.int .i64 x.o, .int .i64 x.n, .int .i64 x.k, .int .i64 x.v, .int .i64 x.a] 26)
          replace SL := Lib.hid (SL.out.below (belowNew wr (Obj.cells #[.int .i64 x.o, .int .i64 x.n, .int .i64 x.k, .int .i64 x.v, .int .i64 x.a] 26)))
          replace SD := Lib.hid (SD.out.below (belowNew wr (Obj.cells #[.int .i64 x.o, .int .i64 x.n, .int .i64 x.k, .int .i64 x.v, .int .i64 x.a] 26)))
          replace bel := bel.alloc bel.size (Obj.cells #[.int .i64 x.o, .int .i64 x.n, .int .i64 x.k, .int .i64 x.v, .int .i64 x.a] 26)
          clear cQ0 fQ zQ cR0 cR1 cR2 cR3 cR4 fR zR cD0 fD zD
          generalize wr.alloc (Obj.cells #[.int .i64 x.o, .int .i64 x.n, .int .i64 x.k, .int .i64 x.v, .int .i64 x.a] 26) = w6 at oQ oR oD oE SL SD bel ⊢
          obtain ⟨cQ0, fQ, zQ⟩ := own1 oQ
          obtain ⟨cR0, cR1, cR2, cR3, cR4, fR, zR⟩ := own5r oR
          obtain ⟨cD0, fD, zD⟩ := own1 oD
          obtain ⟨cE0, cE1, cE2, cE3, cE4, fE, zE⟩ := own5r oE
          obtain ⟨p3, cap3, e3, _, _, parts3⟩ := SD.out
          cases e3
          obtain ⟨x', b2, off2, hx', rfl, hbl2, g0, g1, g2, g3, g4⟩ := SlR.at parts3 (Below.refl _ _) HN.out.1
          obtain rfl : x = x' := by have := HN.out.2; rw [hx'] at this; exact (Option.some.inj this).symm
          clear hx' parts3
          go_quiet (fail)
          go_wp2_with fail
          go_roundw
          case rel => exact ⟨i + 1, k + 1, by omega, by go_num, by go_num, by rw [filt_step HX.out, HB.out]; simp [HK.out], oQ.drewN _, oR.drewN _, oD.drewN _, belowN bel, SL.out.below (belowN (Below.refl _ _)), SD.out.below (belowN (Below.refl _ _))⟩
          case measure => simp [intOf]; omega
    · have hkd : k = ds.length := by have h := HK.out; rw [List.take_of_length_le (by omega), ← drop_filter HV.out, HDS.out] at h; exact h
      clear parts parts2
      subst hkd
      have HVD := Lib.hid (show vdB ds = true by have h := vd_drop (o := o) (n := n) HV.out; rw [HDS.out] at h; exact h)
      have kk : ((ds.length : Int) != (ds.length : Int)) = false := by simp
      go_wp2_with fail
      refine (rqvalid_lit (.slice pd ds.length capd) ds true _ SD.out HVD.out).mono ?_
      rintro e w6 ⟨rfl, hb⟩
      replace oQ := oQ.below hb
      replace oR := oR.below hb
      replace oD := oD.below hb
      replace SL := Lib.hid (SL.out.below hb)
      replace SD := Lib.hid (SD.out.below hb)
      replace bel := belowTo bel hb (by exact bel.size)
      clear hb
      clear cQ0 fQ zQ cR0 cR1 cR2 cR3 cR4 fR zR cD0 fD zD
      obtain ⟨cQ0, fQ, zQ⟩ := own1 oQ
      obtain ⟨cR0, cR1, cR2, cR3, cR4, fR, zR⟩ := own5r oR
      obtain ⟨cD0, fD, zD⟩ := own1 oD
      obtain ⟨E, hE⟩ : ∃ E, putE rs r me = E := ⟨_, rfl⟩
      obtain ⟨l, hl⟩ : ∃ l, putL rs r me = l := ⟨_, rfl⟩
      have HE := Lib.hid hE
      have HL := Lib.hid hl
      clear hE hl
      go_wp2_with fail
      refine (put_lit (.slice p rs.length cap) rs r me E l _ SL.out ⟨HE.out, HL.out⟩).mono ?_
      rintro e w7 ⟨va, rfl, sA, _, hb⟩
      replace oQ := oQ.below hb
      replace oR := oR.below hb
      replace oD := oD.below hb
      replace SL := Lib.hid (SL.out.below hb)
      replace SD := Lib.hid (SD.out.below hb)
      replace bel := belowTo bel hb (by exact bel.size)
      clear hb
      clear cQ0 fQ zQ cR0 cR1 cR2 cR3 cR4 fR zR cD0 fD zD
      obtain ⟨cQ0, fQ, zQ⟩ := own1 oQ
      obtain ⟨cR0, cR1, cR2, cR3, cR4, fR, zR⟩ := own5r oR
      obtain ⟨cD0, fD, zD⟩ := own1 oD
      have SA := Lib.hid sA
      obtain ⟨pa, capa, rfl⟩ := slr_form _ sA rfl
      clear sA
      go_wp2_with fail
      have oA : Own (w7.alloc (Obj.cells #[.slice pa l.length capa] 24)) w7.heap.size [.slice pa l.length capa] 24 := own_at _ _ rfl
      replace oQ := oQ.alloc (Obj.cells #[.slice pa l.length capa] 24)
      replace oR := oR.alloc (Obj.cells #[.slice pa l.length capa] 24)
      replace oD := oD.alloc (Obj.cells #[.slice pa l.length capa] 24)
      replace SL := Lib.hid (SL.out.below (belowNew w7 (Obj.cells #[.slice pa l.length capa] 24)))
      replace SD := Lib.hid (SD.out.below (belowNew w7 (Obj.cells #[.slice pa l.length capa] 24)))
      replace SA := Lib.hid (SA.out.below (belowNew w7 (Obj.cells #[.slice pa l.length capa] 24)))
      replace bel := bel.alloc bel.size (Obj.cells #[.slice pa l.length capa] 24)
      clear cQ0 fQ zQ cR0 cR1 cR2 cR3 cR4 fR zR cD0 fD zD
      generalize w7.alloc (Obj.cells #[.slice pa l.length capa] 24) = w8 at oQ oR oD oA SL SD SA bel ⊢
      obtain ⟨cQ0, fQ, zQ⟩ := own1 oQ
      obtain ⟨cR0, cR1, cR2, cR3, cR4, fR, zR⟩ := own5r oR
      obtain ⟨cD0, fD, zD⟩ := own1 oD
      obtain ⟨cA0, fA, zA⟩ := own1 oA
      by_cases hE0 : E = 0
      · subst hE0
        have HA := Lib.hid (vd_put HE.out)
        have hl : l = rs ++ [r] := by have h := HL.out; rw [putL, if_pos HE.out] at h; exact h.symm
        have HDP := Lib.hid (show dropL l r.o r.n = rs by rw [hl]; exact drop_put HE.out)
        have HVL := Lib.hid (show vdB l = true by rw [hl]; exact HA.out.2.2.2.2.2.2)
        have HSM := Lib.hid (same_iff.2 (rfl : rs = rs))
        have hll : l.length = rs.length + 1 := by rw [hl]; simp
        have hr16 : (rs.length : Int) ≤ 16 := by have := vd_len HV.out; omega
        clear hl
        have le1 : ((l.length : Int) == (rs.length : Int) + 1) = true := by simp [hll]
        have HLL := Lib.hid hll
        clear hll
        have wr1 : IntKind.i64.wrap ((rs.length : Int) + 1) = (rs.length : Int) + 1 := IntWalk.i64_in _ (by omega)
        have SAd := Lib.hid (SA.out.below (Below.refl _ w8).drew)
        have SLd := Lib.hid (SL.out.below (Below.refl _ w8).drew)
        have oQd := oQ.drew
        have oRd := oR.drew
        have oAd := oA.drew
        have dQ0 : w8.drew.cell? ⟨w.heap.size, 0, none⟩ = some (.slice p rs.length cap) := cQ0
        have dA0 : w8.drew.cell? ⟨w7.heap.size, 0, none⟩ = some (.slice pa l.length capa) := cA0
        have dR0 : w8.drew.cell? ⟨w.heap.size + 1, 0, none⟩ = some (.int .i64 r.o) := cR0
        have dR1 : w8.drew.cell? ⟨w.heap.size + 1, 1, none⟩ = some (.int .i64 r.n) := cR1
        have BEd := Lib.hid bel.drew
        go_region_held3 (fun w' => w'.cell? ⟨w.heap.size, 0, none⟩ = some (.slice p rs.length cap) ∧ w'.cell? ⟨w7.heap.size, 0, none⟩ = some (.slice pa l.length capa) ∧ w'.cell? ⟨w.heap.size + 1, 0, none⟩ = some (.int .i64 r.o) ∧ w'.cell? ⟨w.heap.size + 1, 1, none⟩ = some (.int .i64 r.n))
          (((try dsimp only); (repeat' apply And.intro) <;> assumption))
          (first | (go_at_call 20; refine (rqvalid_lit _ l true _ SAd.out HVL.out).mono ?_; rintro e w9 ⟨rfl, hb⟩; have oQw9 := oQd.below hb; have oRw9 := oRd.below hb; have oAw9 := oAd.below hb; have SLw9 := Lib.hid (SLd.out.below hb); have SAw9 := Lib.hid (SAd.out.below hb); obtain ⟨eQ0, _⟩ := own1 oQw9; obtain ⟨eA0, _⟩ := own1 oAw9; obtain ⟨eR0, eR1, _⟩ := own5r oRw9; have BEw9 := Lib.hid (belowTo BEd.out hb BEd.out.size); clear hb) | (go_at_call 16; refine (drop_lit _ l r.o r.n rs _ SAw9.out HDP.out).mono ?_; rintro e w10 ⟨vb, rfl, sB, _, hb⟩; have oQw10 := oQw9.below hb; have oRw10 := oRw9.below hb; have oAw10 := oAw9.below hb; have SLw10 := Lib.hid (SLw9.out.below hb); have SAw10 := Lib.hid (SAw9.out.below hb); have SB := Lib.hid sB; clear sB; obtain ⟨eQ0, _⟩ := own1 oQw10; obtain ⟨eA0, _⟩ := own1 oAw10; obtain ⟨eR0, eR1, _⟩ := own5r oRw10; have BEw10 := Lib.hid (belowTo BEw9.out hb BEw9.out.size); clear hb) | (go_at_call 15; refine (same_lit vb (.slice p rs.length cap) rs rs true _ SB.out SLw10.out HSM.out).mono ?_; rintro e w11 ⟨rfl, hb⟩; have oQw11 := oQw10.below hb; have oRw11 := oRw10.below hb; have oAw11 := oAw10.below hb; have SLw11 := Lib.hid (SLw10.out.below hb); have SAw11 := Lib.hid (SAw10.out.below hb); obtain ⟨eQ0, _⟩ := own1 oQw11; obtain ⟨eA0, _⟩ := own1 oAw11; obtain ⟨eR0, eR1, _⟩ := own5r oRw11; have BEw11 := Lib.hid (belowTo BEw10.out hb BEw10.out.size); clear hb))
        all_goals go_wp2
        all_goals (go_ret; exact ⟨by first | rfl | (simp; done), BEw11.out⟩)
      · have ee : (E != 0) = true := by simp [hE0]
        clear hE0
        go_quiet (fail)
        go_wp2
        go_ret
        exact ⟨by first | rfl | (simp; done), belowN bel⟩

set_option linter.unusedVariables false in
theorem queueValid_walk (v : Value) (rs : List Rd) (x0 x1 x2 x3 x4 : Int) (me o n : Int) (w : World) (sl : SlR w v rs) (nk : NilOk v) (ri : ∀ r ∈ rs, RdIn r) (g0 : IntKind.i64.has x0) (g1 : IntKind.i64.has x1) (g2 : IntKind.i64.has x2) (g3 : IntKind.i64.has x3) (g4 : IntKind.i64.has x4) (g5 : IntKind.i64.has me) (g6 : IntKind.i64.has o) (g7 : IntKind.i64.has n) :
    Calls Try.prog 5 #[.agg #[v], .agg #[.int .i64 x0, .int .i64 x1, .int .i64 x2, .int .i64 x3, .int .i64 x4], .int .i64 me, .int .i64 o, .int .i64 n] w fun e w' => e = .returned (.bool true) ∧ Below w.heap.size w w' := by
  obtain ⟨r, hr⟩ : ∃ r : Rd, r = ⟨x0, x1, x2, x3, x4⟩ := ⟨_, rfl⟩
  have key : Calls Try.prog 5 #[.agg #[v], .agg #[.int .i64 r.o, .int .i64 r.n, .int .i64 r.k, .int .i64 r.v, .int .i64 r.a], .int .i64 me, .int .i64 o, .int .i64 n] w fun e w' => e = .returned (.bool true) ∧ Below w.heap.size w w' := by
    cases hs : decide (rs.length ≤ 40) with
    | false => exact qv_long v rs r me o n w sl hs
    | true =>
      cases hv : vdB rs with
      | false => exact qv_bad v rs r me o n w sl hs hv
      | true => exact qv_main v rs r me o n w sl hs hv _ rfl
  rw [hr] at key
  exact key

end Go.Proofs.Ytlfdbmndikdhdaa
