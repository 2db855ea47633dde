/- The contracts of package queue: valid; of the reference: Valid. -/
import Derived.Test.YtlfdbmndikdhdaaFind27
namespace Go.Proofs.Ytlfdbmndikdhdaa
open Go.RowKit

theorem past_sl {w : World} {x : Past w} {v : Value} {rs : List Rd} (h : SlR w v rs) : SlR (past w x) v rs := h.below x.h
theorem formed_lit (r : Rd) {x : Bool} (w : World) (h : fmB r = x) :
    Calls Try.prog 25 #[.agg #[.int .i64 r.o, .int .i64 r.n, .int .i64 r.k, .int .i64 r.v, .int .i64 r.a]] w fun e w' => e = .returned (.bool x) ∧ Below w.heap.size w w' := by
  have := formed_any r w
  rwa [h] at this
theorem rformed_lit (r : Rd) {x : Bool} (w : World) (h : fmB r = x) :
    Calls Try.prog 21 #[.agg #[.int .i64 r.o, .int .i64 r.n, .int .i64 r.k, .int .i64 r.v, .int .i64 r.a]] w fun e w' => e = .returned (.bool x) ∧ Below w.heap.size w w' := by
  have := rformed_any r w
  rwa [h] at this
theorem find_lit (v : Value) (rs : List Rd) (o n F : Int) (w : World) (sl : SlR w v rs) (hF : fnd o n rs = F) :
    Calls Try.prog 26 #[v, .agg #[.int .i64 o, .int .i64 n]] w fun e w' => e = .returned (.int .i64 F) ∧ Below w.heap.size w w' := by
  have := find_any v rs o n w sl
  rwa [hF] at this
theorem rfind_lit (v : Value) (rs : List Rd) (o n F : Int) (w : World) (sl : SlR w v rs) (hF : fnd o n rs = F) :
    Calls Try.prog 22 #[v, .int .i64 o, .int .i64 n] w fun e w' => e = .returned (.int .i64 F) ∧ Below w.heap.size w w' := by
  have := rfind_any v rs o n w sl
  rw [hF] at this
  exact this.mono fun e w' ⟨h1, h2⟩ => ⟨h1, by rw [h2]; exact Below.refl _ _⟩

set_option linter.unusedVariables false in
set_option maxRecDepth 100000 in
set_option maxHeartbeats 2000000 in
theorem qvalid_any (v : Value) (rs : List Rd) (w : World) (sl : SlR w v rs) :
    Calls Try.prog 24 #[.agg #[v]] w fun e w' => e = .returned (.bool (vdB rs)) ∧ Below w.heap.size w w' := by
  obtain ⟨p, cap, rfl, hlc, hcm, parts⟩ := sl
  have sl0 : SlR w (.slice p rs.length cap) rs := ⟨p, cap, rfl, hlc, hcm, parts⟩
  have SL := Lib.hid sl0
  unfold maxLen at hcm
  clear sl0
  go_enter Try.func24, Try.ntmps24
  go_wp2
  go_loopw [8] (fun i wr => ∃ k : Nat, k ≤ rs.length ∧ i = .int .i64 k ∧ Own wr w.heap.size [.slice p rs.length cap] 24 ∧ Below w.heap.size w wr ∧ vdFrom rs rs 0 = vdFrom rs (rs.drop k) k) (fun i _ => rs.length - (intOf i).toNat)
  case atStart => exact ⟨0, Nat.zero_le _, rfl, own_at _ _ rfl, belowNew w _, by simp⟩
  case round =>
    obtain ⟨k, hk, rfl, oQ, bel, hF⟩ := hrel
    have HF := Lib.hid hF
    clear hF
    obtain ⟨cQ0, fQ, zQ⟩ := own1 oQ
    by_cases hlt : k < rs.length
    · obtain ⟨r, b, off, hr, rfl, hbl, d0, d1, d2, d3, d4⟩ := SlR.at parts bel hlt
      have HR := Lib.hid (vdFrom_step hr)
      clear parts hr
      have SL' := Lib.hid (SL.out.below bel)
      have i0 : (0 : Int) ≤ (k : Int) := Int.natCast_nonneg _
      have i1 : (k : Int) < (rs.length : Int) := by omega
      cases hfm : fmB r with
      | false =>
        have Hfm := Lib.hid hfm
        obtain ⟨F, hfd⟩ : ∃ F, fnd r.o r.n rs = F := ⟨_, rfl⟩
        have Hfd := Lib.hid hfd
        clear hfm hfd
        have SLZ := Lib.hid (SL'.out.below (belowNew wr (.cells #[.int .i64 r.o, .int .i64 r.n, .int .i64 r.k, .int .i64 r.v, .int .i64 r.a] 26)))
        go_wp2_with fail
        have oR : Own (wr.alloc (Obj.cells #[.int .i64 r.o, .int .i64 r.n, .int .i64 r.k, .int .i64 r.v, .int .i64 r.a] 26)) wr.heap.size [.int .i64 r.o, .int .i64 r.n, .int .i64 r.k, .int .i64 r.v, .int .i64 r.a] 26 := own_at _ _ rfl
        replace oQ := oQ.alloc (Obj.cells #[.int .i64 r.o, .int .i64 r.n, .int .i64 r.k, .int .i64 r.v, .int .i64 r.a] 26)
        replace bel := bel.alloc bel.size (Obj.cells #[.int .i64 r.o, .int .i64 r.n, .int .i64 r.k, .int .i64 r.v, .int .i64 r.a] 26)
        clear cQ0 fQ zQ
        generalize wr.alloc (Obj.cells #[.int .i64 r.o, .int .i64 r.n, .int .i64 r.k, .int .i64 r.v, .int .i64 r.a] 26) = w1 at oQ oR bel SLZ ⊢
        obtain ⟨cQ0, fQ, zQ⟩ := own1 oQ
        obtain ⟨cR0, cR1, cR2, cR3, cR4, fR, zR⟩ := own5r oR
        have pQ0 := fun x : Past w1 => (oQ.past x).cell (i := 0) rfl
        have pR0 := fun x : Past w1 => (oR.past x).cell (i := 0) rfl
        have pR1 := fun x : Past w1 => (oR.past x).cell (i := 1) rfl
        have pR2 := fun x : Past w1 => (oR.past x).cell (i := 2) rfl
        have pR3 := fun x : Past w1 => (oR.past x).cell (i := 3) rfl
        have pR4 := fun x : Past w1 => (oR.past x).cell (i := 4) rfl
        refine wp_region_past (by kernel_rfl) (by kernel_rfl) ?_
        repeat (go_big_quiet_step ((first | (go_at_call 25; exact calls_past (formed_lit r _ Hfm.out)) | (go_at_call 27; exact calls_past (name_any r.o r.n r.k r.v r.a _)) | (go_at_call 26; exact calls_past (find_lit (.slice (some ⟨b, off, none⟩) rs.length cap) rs r.o r.n F _ (past_sl SLZ.out) Hfd.out)))))
        refine wpQuiet_nil ?_
        rintro _ ⟨x, rfl⟩
        replace bel : Below w.heap.size w (past w1 x) := bel.trans (x.h.mono bel.size)
        clear pQ0
        clear pR0 pR1 pR2 pR3 pR4
        clear cQ0 fQ zQ cR0 cR1 cR2 cR3 cR4 fR zR
        replace oQ := oQ.past x
        clear oR
        generalize past w1 x = w2 at oQ bel ⊢
        obtain ⟨cQ0, fQ, zQ⟩ := own1 oQ
        go_wp2_with fail
        go_ret
        exact ⟨ret_bool (by simp [vdB, HF.out, HR.out, Hfm.out]), bel⟩
      | true =>
        have Hfm := Lib.hid hfm
        obtain ⟨F, hfd⟩ : ∃ F, fnd r.o r.n rs = F := ⟨_, rfl⟩
        have Hfd := Lib.hid hfd
        clear hfm hfd
        by_cases hq : F = (k : Int)
        · have hq1 : (F != (k : Int)) = false := by simp [hq]
          have HQ := Lib.hid hq
          clear hq
          have SLZ := Lib.hid (SL'.out.below (belowNew wr (.cells #[.int .i64 r.o, .int .i64 r.n, .int .i64 r.k, .int .i64 r.v, .int .i64 r.a] 26)))
          go_wp2_with fail
          have oR : Own (wr.alloc (Obj.cells #[.int .i64 r.o, .int .i64 r.n, .int .i64 r.k, .int .i64 r.v, .int .i64 r.a] 26)) wr.heap.size [.int .i64 r.o, .int .i64 r.n, .int .i64 r.k, .int .i64 r.v, .int .i64 r.a] 26 := own_at _ _ rfl
          replace oQ := oQ.alloc (Obj.cells #[.int .i64 r.o, .int .i64 r.n, .int .i64 r.k, .int .i64 r.v, .int .i64 r.a] 26)
          replace bel := bel.alloc bel.size (Obj.cells #[.int .i64 r.o, .int .i64 r.n, .int .i64 r.k, .int .i64 r.v, .int .i64 r.a] 26)
          clear cQ0 fQ zQ
          generalize wr.alloc (Obj.cells #[.int .i64 r.o, .int .i64 r.n, .int .i64 r.k, .int .i64 r.v, .int .i64 r.a] 26) = w1 at oQ oR bel SLZ ⊢
          obtain ⟨cQ0, fQ, zQ⟩ := own1 oQ
          obtain ⟨cR0, cR1, cR2, cR3, cR4, fR, zR⟩ := own5r oR
          have pQ0 := fun x : Past w1 => (oQ.past x).cell (i := 0) rfl
          have pR0 := fun x : Past w1 => (oR.past x).cell (i := 0) rfl
          have pR1 := fun x : Past w1 => (oR.past x).cell (i := 1) rfl
          have pR2 := fun x : Past w1 => (oR.past x).cell (i := 2) rfl
          have pR3 := fun x : Past w1 => (oR.past x).cell (i := 3) rfl
          have pR4 := fun x : Past w1 => (oR.past x).cell (i := 4) rfl
          refine wp_region_past (by kernel_rfl) (by kernel_rfl) ?_
          repeat (go_big_quiet_step ((first | (go_at_call 25; exact calls_past (formed_lit r _ Hfm.out)) | (go_at_call 27; exact calls_past (name_any r.o r.n r.k r.v r.a _)) | (go_at_call 26; exact calls_past (find_lit (.slice (some ⟨b, off, none⟩) rs.length cap) rs r.o r.n F _ (past_sl SLZ.out) Hfd.out)))))
          refine wpQuiet_nil ?_
          rintro _ ⟨x, rfl⟩
          replace bel : Below w.heap.size w (past w1 x) := bel.trans (x.h.mono bel.size)
          clear pQ0
          clear pR0 pR1 pR2 pR3 pR4
          clear cQ0 fQ zQ cR0 cR1 cR2 cR3 cR4 fR zR
          replace oQ := oQ.past x
          clear oR
          generalize past w1 x = w2 at oQ bel ⊢
          obtain ⟨cQ0, fQ, zQ⟩ := own1 oQ
          go_wp2_with fail
          go_roundw
          case rel => exact ⟨k + 1, by omega, by go_num, oQ, bel, by rw [HF.out, HR.out, Hfm.out, Hfd.out, HQ.out]; simp⟩
          case measure => simp [intOf]; omega
        · have hq1 : (F != (k : Int)) = true := by simp [hq]
          have HQ := Lib.hid hq
          clear hq
          have SLZ := Lib.hid (SL'.out.below (belowNew wr (.cells #[.int .i64 r.o, .int .i64 r.n, .int .i64 r.k, .int .i64 r.v, .int .i64 r.a] 26)))
          go_wp2_with fail
          have oR : Own (wr.alloc (Obj.cells #[.int .i64 r.o, .int .i64 r.n, .int .i64 r.k, .int .i64 r.v, .int .i64 r.a] 26)) wr.heap.size [.int .i64 r.o, .int .i64 r.n, .int .i64 r.k, .int .i64 r.v, .int .i64 r.a] 26 := own_at _ _ rfl
          replace oQ := oQ.alloc (Obj.cells #[.int .i64 r.o, .int .i64 r.n, .int .i64 r.k, .int .i64 r.v, .int .i64 r.a] 26)
          replace bel := bel.alloc bel.size (Obj.cells #[.int .i64 r.o, .int .i64 r.n, .int .i64 r.k, .int .i64 r.v, .int .i64 r.a] 26)
          clear cQ0 fQ zQ
          generalize wr.alloc (Obj.cells #[.int .i64 r.o, .int .i64 r.n, .int .i64 r.k, .int .i64 r.v, .int .i64 r.a] 26) = w1 at oQ oR bel SLZ ⊢
          obtain ⟨cQ0, fQ, zQ⟩ := own1 oQ
          obtain ⟨cR0, cR1, cR2, cR3, cR4, fR, zR⟩ := own5r oR
          have pQ0 := fun x : Past w1 => (oQ.past x).cell (i := 0) rfl
          have pR0 := fun x : Past w1 => (oR.past x).cell (i := 0) rfl
          have pR1 := fun x : Past w1 => (oR.past x).cell (i := 1) rfl
          have pR2 := fun x : Past w1 => (oR.past x).cell (i := 2) rfl
          have pR3 := fun x : Past w1 => (oR.past x).cell (i := 3) rfl
          have pR4 := fun x : Past w1 => (oR.past x).cell (i := 4) rfl
          refine wp_region_past (by kernel_rfl) (by kernel_rfl) ?_
          repeat (go_big_quiet_step ((first | (go_at_call 25; exact calls_past (formed_lit r _ Hfm.out)) | (go_at_call 27; exact calls_past (name_any r.o r.n r.k r.v r.a _)) | (go_at_call 26; exact calls_past (find_lit (.slice (some ⟨b, off, none⟩) rs.length cap) rs r.o r.n F _ (past_sl SLZ.out) Hfd.out)))))
          refine wpQuiet_nil ?_
          rintro _ ⟨x, rfl⟩
          replace bel : Below w.heap.size w (past w1 x) := bel.trans (x.h.mono bel.size)
          clear pQ0
          clear pR0 pR1 pR2 pR3 pR4
          clear cQ0 fQ zQ cR0 cR1 cR2 cR3 cR4 fR zR
          replace oQ := oQ.past x
          clear oR
          generalize past w1 x = w2 at oQ bel ⊢
          obtain ⟨cQ0, fQ, zQ⟩ := own1 oQ
          go_wp2_with fail
          go_ret
          exact ⟨ret_bool (by simp [vdB, HF.out, HR.out, Hfm.out, Hfd.out, HQ.out]), bel⟩
    · have HV := Lib.hid (vdFrom_end (rs := rs) (k := k) (by omega))
      clear parts
      go_wp2_with fail
      go_ret
      refine ⟨ret_bool ?_, bel⟩
      rw [vdB, HF.out, HV.out, Bool.true_and, decide_eq_decide]
      omega

set_option linter.unusedVariables false in
set_option maxRecDepth 100000 in
set_option maxHeartbeats 2000000 in
theorem rvalid_any (v : Value) (rs : List Rd) (w : World) (sl : SlR w v rs) :
    Calls Try.prog 20 #[.agg #[v]] w fun e w' => e = .returned (.bool (vdB rs)) ∧ Below w.heap.size w w' := by
  obtain ⟨p, cap, rfl, hlc, hcm, parts⟩ := sl
  have sl0 : SlR w (.slice p rs.length cap) rs := ⟨p, cap, rfl, hlc, hcm, parts⟩
  have SL := Lib.hid sl0
  unfold maxLen at hcm
  clear sl0
  go_enter Try.func20, Try.ntmps20
  go_wp2
  go_loopw [3] (fun i wr => ∃ k : Nat, k ≤ rs.length ∧ i = .int .i64 k ∧ Own wr w.heap.size [.slice p rs.length cap] 24 ∧ Below w.heap.size w wr ∧ vdFrom rs rs 0 = vdFrom rs (rs.drop k) k) (fun i _ => rs.length - (intOf i).toNat)
  case atStart => exact ⟨0, Nat.zero_le _, rfl, own_at _ _ rfl, belowNew w _, by simp⟩
  case round =>
    obtain ⟨k, hk, rfl, oQ, bel, hF⟩ := hrel
    have HF := Lib.hid hF
    clear hF
    obtain ⟨cQ0, fQ, zQ⟩ := own1 oQ
    by_cases hlt : k < rs.length
    · obtain ⟨r, b, off, hr, rfl, hbl, d0, d1, d2, d3, d4⟩ := SlR.at parts bel hlt
      have HR := Lib.hid (vdFrom_step hr)
      clear parts hr
      have SL' := Lib.hid (SL.out.below bel)
      have i0 : (0 : Int) ≤ (k : Int) := Int.natCast_nonneg _
      have i1 : (k : Int) < (rs.length : Int) := by omega
      cases hfm : fmB r with
      | false =>
        have Hfm := Lib.hid hfm
        obtain ⟨F, hfd⟩ : ∃ F, fnd r.o r.n rs = F := ⟨_, rfl⟩
        have Hfd := Lib.hid hfd
        clear hfm hfd
        have SLZ := SL'
        go_wp2_with fail
        have pd0 := fun x : Past wr => past_cell x d0 hbl
        have pd1 := fun x : Past wr => past_cell x d1 hbl
        have pd2 := fun x : Past wr => past_cell x d2 hbl
        have pd3 := fun x : Past wr => past_cell x d3 hbl
        have pd4 := fun x : Past wr => past_cell x d4 hbl
        have pQ0 := fun x : Past wr => (oQ.past x).cell (i := 0) rfl
        refine wp_region_past (by kernel_rfl) (by kernel_rfl) ?_
        repeat (go_big_quiet_step ((first | (go_at_call 21; exact calls_past (rformed_lit r _ Hfm.out)) | (go_at_call 22; exact calls_past (rfind_lit (.slice (some ⟨b, off, none⟩) rs.length cap) rs r.o r.n F _ (past_sl SLZ.out) Hfd.out)))))
        refine wpQuiet_nil ?_
        rintro _ ⟨x, rfl⟩
        replace bel : Below w.heap.size w (past wr x) := bel.trans (x.h.mono bel.size)
        clear pQ0
        clear cQ0 fQ zQ
        replace oQ := oQ.past x
        generalize past wr x = w2 at oQ bel ⊢
        obtain ⟨cQ0, fQ, zQ⟩ := own1 oQ
        go_wp2_with fail
        go_ret
        exact ⟨ret_bool (by simp [vdB, HF.out, HR.out, Hfm.out]), bel⟩
      | true =>
        have Hfm := Lib.hid hfm
        obtain ⟨F, hfd⟩ : ∃ F, fnd r.o r.n rs = F := ⟨_, rfl⟩
        have Hfd := Lib.hid hfd
        clear hfm hfd
        by_cases hq : F = (k : Int)
        · have hq1 : (F != (k : Int)) = false := by simp [hq]
          have HQ := Lib.hid hq
          clear hq
          have SLZ := SL'
          go_wp2_with fail
          have pd0 := fun x : Past wr => past_cell x d0 hbl
          have pd1 := fun x : Past wr => past_cell x d1 hbl
          have pd2 := fun x : Past wr => past_cell x d2 hbl
          have pd3 := fun x : Past wr => past_cell x d3 hbl
          have pd4 := fun x : Past wr => past_cell x d4 hbl
          have pQ0 := fun x : Past wr => (oQ.past x).cell (i := 0) rfl
          refine wp_region_past (by kernel_rfl) (by kernel_rfl) ?_
          repeat (go_big_quiet_step ((first | (go_at_call 21; exact calls_past (rformed_lit r _ Hfm.out)) | (go_at_call 22; exact calls_past (rfind_lit (.slice (some ⟨b, off, none⟩) rs.length cap) rs r.o r.n F _ (past_sl SLZ.out) Hfd.out)))))
          refine wpQuiet_nil ?_
          rintro _ ⟨x, rfl⟩
          replace bel : Below w.heap.size w (past wr x) := bel.trans (x.h.mono bel.size)
          clear pQ0
          clear cQ0 fQ zQ
          replace oQ := oQ.past x
          generalize past wr x = w2 at oQ bel ⊢
          obtain ⟨cQ0, fQ, zQ⟩ := own1 oQ
          go_wp2_with fail
          go_roundw
          case rel => exact ⟨k + 1, by omega, by go_num, oQ, bel, by rw [HF.out, HR.out, Hfm.out, Hfd.out, HQ.out]; simp⟩
          case measure => simp [intOf]; omega
        · have hq1 : (F != (k : Int)) = true := by simp [hq]
          have HQ := Lib.hid hq
          clear hq
          have SLZ := SL'
          go_wp2_with fail
          have pd0 := fun x : Past wr => past_cell x d0 hbl
          have pd1 := fun x : Past wr => past_cell x d1 hbl
          have pd2 := fun x : Past wr => past_cell x d2 hbl
          have pd3 := fun x : Past wr => past_cell x d3 hbl
          have pd4 := fun x : Past wr => past_cell x d4 hbl
          have pQ0 := fun x : Past wr => (oQ.past x).cell (i := 0) rfl
          refine wp_region_past (by kernel_rfl) (by kernel_rfl) ?_
          repeat (go_big_quiet_step ((first | (go_at_call 21; exact calls_past (rformed_lit r _ Hfm.out)) | (go_at_call 22; exact calls_past (rfind_lit (.slice (some ⟨b, off, none⟩) rs.length cap) rs r.o r.n F _ (past_sl SLZ.out) Hfd.out)))))
          refine wpQuiet_nil ?_
          rintro _ ⟨x, rfl⟩
          replace bel : Below w.heap.size w (past wr x) := bel.trans (x.h.mono bel.size)
          clear pQ0
          clear cQ0 fQ zQ
          replace oQ := oQ.past x
          generalize past wr x = w2 at oQ bel ⊢
          obtain ⟨cQ0, fQ, zQ⟩ := own1 oQ
          go_wp2_with fail
          go_ret
          exact ⟨ret_bool (by simp [vdB, HF.out, HR.out, Hfm.out, Hfd.out, HQ.out]), bel⟩
    · have HV := Lib.hid (vdFrom_end (rs := rs) (k := k) (by omega))
      clear parts
      go_wp2_with fail
      go_ret
      refine ⟨ret_bool ?_, bel⟩
      rw [vdB, HF.out, HV.out, Bool.true_and, decide_eq_decide]
      omega

end Go.Proofs.Ytlfdbmndikdhdaa
