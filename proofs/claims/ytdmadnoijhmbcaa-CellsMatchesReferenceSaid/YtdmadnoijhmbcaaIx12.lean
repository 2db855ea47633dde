/- slices.IndexFunc, slices.ContainsFunc, Busy. -/
import Derived.Test.YtdmadnoijhmbcaaClo12
import Derived.Deep.DeepCutAuto
namespace Go.Proofs.Ytdmadnoijhmbcaa
open Go.RowKit

set_option linter.unusedSimpArgs false in
set_option linter.unusedVariables false in
set_option maxRecDepth 100000 in
set_option maxHeartbeats 2000000 in
theorem ix_bz1 (v : Value) (l : List Us) (b1 : Nat) (q : Us → Bool) (B : Nat) (w : World) (sl : SlU w v l) (hB : B ≤ w.heap.size) (hq : ∀ (d : Us) (wx : World), Below B w wx → Calls Try.prog 50 #[.agg #[.int .i64 d.s, .int .i64 d.o, .int .i64 d.p, .int .i64 d.m], .pointer (some ⟨b1, 0, none⟩)] wx fun e w' => e = .returned (.bool (q d)) ∧ Below wx.heap.size wx w') :
    Calls Try.prog 61 #[v, .func (.func 50) #[] #[.pointer (some ⟨b1, 0, none⟩)]] w fun e w' => e = .returned (.int .i64 (idxD q l)) ∧ Below w.heap.size w w' := by
  obtain ⟨p, cap, e0, hlc, hcm, hpn⟩ := sl.form l.length rfl
  subst e0
  have SL := Lib.hid sl
  unfold maxLen at hcm
  clear hpn sl
  have HQ := Lib.hid hq
  clear hq
  go_enter Try.func61, Try.ntmps61
  go_wp2
  go_loopw [8] (fun ii wr => ∃ (i : Nat), i ≤ l.length ∧ ii = .int .i64 i ∧ idxD q l = idxF q (l.drop i) i ∧ Below w.heap.size w wr) (fun i _ => l.length - (intOf i).toNat)
  case atStart => exact ⟨0, by omega, rfl, rfl, Below.refl _ _⟩
  case round =>
    obtain ⟨i, hi, rfl, hT, bel⟩ := hrel
    have HT := Lib.hid hT
    clear hT
    by_cases hlt : i < l.length
    · obtain ⟨d, b, off, hd, rfl, hbl, _, d0, d1, d2, d3⟩ := SL.out.atU bel hlt
      have j0 : (0 : Int) ≤ (i : Int) := Int.natCast_nonneg _
      have j1 : (i : Int) < (l.length : Int) := by omega
      have HD := Lib.hid hd
      have BE := Lib.hid bel
      clear hd
      cases hn : q d with
      | true =>
        have HN := Lib.hid hn
        clear hn
        go_wp2_with (first | (go_at_call 50; refine (calls_bool (HQ.out d _ (BE.out.mono hB)) HN.out).mono ?_; rintro e w1 ⟨rfl, hb2⟩; have B1 := Lib.hid (belowTo bel hb2 bel.size); clear hb2) | fail)
        go_ret
        exact ⟨ret_int (by rw [HT.out, idxF_hit HD.out HN.out]), B1.out⟩
      | false =>
        have HN := Lib.hid hn
        clear hn
        go_wp2_with (first | (go_at_call 50; refine (calls_bool (HQ.out d _ (BE.out.mono hB)) HN.out).mono ?_; rintro e w1 ⟨rfl, hb2⟩; have B1 := Lib.hid (belowTo bel hb2 bel.size); clear hb2) | fail)
        go_roundw
        case rel => exact ⟨i + 1, by omega, by go_num, by rw [HT.out, idxF_miss HD.out HN.out], B1.out⟩
        case measure => simp [intOf]; omega
    · have HE := Lib.hid (idxF_end (q := q) (rs := l) (k := i) (by omega))
      go_wp2
      go_ret
      exact ⟨ret_int (by rw [HT.out, HE.out]), bel⟩
theorem ix_bz1_lit (v : Value) (l : List Us) (b1 : Nat) (q : Us → Bool) (B : Nat) (r : Int) (w : World) (sl : SlU w v l) (hB : B ≤ w.heap.size) (hq : ∀ (d : Us) (wx : World), Below B w wx → Calls Try.prog 50 #[.agg #[.int .i64 d.s, .int .i64 d.o, .int .i64 d.p, .int .i64 d.m], .pointer (some ⟨b1, 0, none⟩)] wx fun e w' => e = .returned (.bool (q d)) ∧ Below wx.heap.size wx w') (h : idxD q l = r) :
    Calls Try.prog 61 #[v, .func (.func 50) #[] #[.pointer (some ⟨b1, 0, none⟩)]] w fun e w' => e = .returned (.int .i64 r) ∧ Below w.heap.size w w' := by
  rw [← h]; exact ix_bz1 v l b1 q B w sl hB hq

set_option linter.unusedSimpArgs false in
set_option linter.unusedVariables false in
set_option maxRecDepth 100000 in
set_option maxHeartbeats 2000000 in
theorem ix_bz2 (v : Value) (l : List Gr) (b1 : Nat) (q : Gr → Bool) (B : Nat) (w : World) (sl : SlG w v l) (hB : B ≤ w.heap.size) (hq : ∀ (d : Gr) (wx : World), Below B w wx → Calls Try.prog 52 #[.agg #[.int .i64 d.s, .int .i64 d.o, .int .i64 d.p, .int .i64 d.m, .int .i64 d.u], .pointer (some ⟨b1, 0, none⟩)] wx fun e w' => e = .returned (.bool (q d)) ∧ Below wx.heap.size wx w') :
    Calls Try.prog 65 #[v, .func (.func 52) #[] #[.pointer (some ⟨b1, 0, none⟩)]] w fun e w' => e = .returned (.int .i64 (idxD q l)) ∧ Below w.heap.size w w' := by
  obtain ⟨p, cap, e0, hlc, hcm, hpn⟩ := sl.form l.length rfl
  subst e0
  have SL := Lib.hid sl
  unfold maxLen at hcm
  clear hpn sl
  have HQ := Lib.hid hq
  clear hq
  go_enter Try.func65, Try.ntmps65
  go_wp2
  go_loopw [8] (fun ii wr => ∃ (i : Nat), i ≤ l.length ∧ ii = .int .i64 i ∧ idxD q l = idxF q (l.drop i) i ∧ Below w.heap.size w wr) (fun i _ => l.length - (intOf i).toNat)
  case atStart => exact ⟨0, by omega, rfl, rfl, Below.refl _ _⟩
  case round =>
    obtain ⟨i, hi, rfl, hT, bel⟩ := hrel
    have HT := Lib.hid hT
    clear hT
    by_cases hlt : i < l.length
    · obtain ⟨d, b, off, hd, rfl, hbl, _, d0, d1, d2, d3, d4⟩ := SL.out.atG bel hlt
      have j0 : (0 : Int) ≤ (i : Int) := Int.natCast_nonneg _
      have j1 : (i : Int) < (l.length : Int) := by omega
      have HD := Lib.hid hd
      have BE := Lib.hid bel
      clear hd
      cases hn : q d with
      | true =>
        have HN := Lib.hid hn
        clear hn
        go_wp2_with (first | (go_at_call 52; refine (calls_bool (HQ.out d _ (BE.out.mono hB)) HN.out).mono ?_; rintro e w1 ⟨rfl, hb2⟩; have B1 := Lib.hid (belowTo bel hb2 bel.size); clear hb2) | fail)
        go_ret
        exact ⟨ret_int (by rw [HT.out, idxF_hit HD.out HN.out]), B1.out⟩
      | false =>
        have HN := Lib.hid hn
        clear hn
        go_wp2_with (first | (go_at_call 52; refine (calls_bool (HQ.out d _ (BE.out.mono hB)) HN.out).mono ?_; rintro e w1 ⟨rfl, hb2⟩; have B1 := Lib.hid (belowTo bel hb2 bel.size); clear hb2) | fail)
        go_roundw
        case rel => exact ⟨i + 1, by omega, by go_num, by rw [HT.out, idxF_miss HD.out HN.out], B1.out⟩
        case measure => simp [intOf]; omega
    · have HE := Lib.hid (idxF_end (q := q) (rs := l) (k := i) (by omega))
      go_wp2
      go_ret
      exact ⟨ret_int (by rw [HT.out, HE.out]), bel⟩
theorem ix_bz2_lit (v : Value) (l : List Gr) (b1 : Nat) (q : Gr → Bool) (B : Nat) (r : Int) (w : World) (sl : SlG w v l) (hB : B ≤ w.heap.size) (hq : ∀ (d : Gr) (wx : World), Below B w wx → Calls Try.prog 52 #[.agg #[.int .i64 d.s, .int .i64 d.o, .int .i64 d.p, .int .i64 d.m, .int .i64 d.u], .pointer (some ⟨b1, 0, none⟩)] wx fun e w' => e = .returned (.bool (q d)) ∧ Below wx.heap.size wx w') (h : idxD q l = r) :
    Calls Try.prog 65 #[v, .func (.func 52) #[] #[.pointer (some ⟨b1, 0, none⟩)]] w fun e w' => e = .returned (.int .i64 r) ∧ Below w.heap.size w w' := by
  rw [← h]; exact ix_bz2 v l b1 q B w sl hB hq

set_option linter.unusedSimpArgs false in
set_option linter.unusedVariables false in
set_option maxRecDepth 100000 in
set_option maxHeartbeats 2000000 in
theorem ix_insu (v : Value) (l : List Us) (b1 b2 : Nat) (q : Us → Bool) (B : Nat) (w : World) (sl : SlU w v l) (hB : B ≤ w.heap.size) (hq : ∀ (d : Us) (wx : World), Below B w wx → Calls Try.prog 62 #[.agg #[.int .i64 d.s, .int .i64 d.o, .int .i64 d.p, .int .i64 d.m], .pointer (some ⟨b1, 0, none⟩), .pointer (some ⟨b2, 0, none⟩)] wx fun e w' => e = .returned (.bool (q d)) ∧ Below wx.heap.size wx w') :
    Calls Try.prog 61 #[v, .func (.func 62) #[] #[.pointer (some ⟨b1, 0, none⟩), .pointer (some ⟨b2, 0, none⟩)]] w fun e w' => e = .returned (.int .i64 (idxD q l)) ∧ Below w.heap.size w w' := by
  obtain ⟨p, cap, e0, hlc, hcm, hpn⟩ := sl.form l.length rfl
  subst e0
  have SL := Lib.hid sl
  unfold maxLen at hcm
  clear hpn sl
  have HQ := Lib.hid hq
  clear hq
  go_enter Try.func61, Try.ntmps61
  go_wp2
  go_loopw [8] (fun ii wr => ∃ (i : Nat), i ≤ l.length ∧ ii = .int .i64 i ∧ idxD q l = idxF q (l.drop i) i ∧ Below w.heap.size w wr) (fun i _ => l.length - (intOf i).toNat)
  case atStart => exact ⟨0, by omega, rfl, rfl, Below.refl _ _⟩
  case round =>
    obtain ⟨i, hi, rfl, hT, bel⟩ := hrel
    have HT := Lib.hid hT
    clear hT
    by_cases hlt : i < l.length
    · obtain ⟨d, b, off, hd, rfl, hbl, _, d0, d1, d2, d3⟩ := SL.out.atU bel hlt
      have j0 : (0 : Int) ≤ (i : Int) := Int.natCast_nonneg _
      have j1 : (i : Int) < (l.length : Int) := by omega
      have HD := Lib.hid hd
      have BE := Lib.hid bel
      clear hd
      cases hn : q d with
      | true =>
        have HN := Lib.hid hn
        clear hn
        go_wp2_with (first | (go_at_call 62; refine (calls_bool (HQ.out d _ (BE.out.mono hB)) HN.out).mono ?_; rintro e w1 ⟨rfl, hb2⟩; have B1 := Lib.hid (belowTo bel hb2 bel.size); clear hb2) | fail)
        go_ret
        exact ⟨ret_int (by rw [HT.out, idxF_hit HD.out HN.out]), B1.out⟩
      | false =>
        have HN := Lib.hid hn
        clear hn
        go_wp2_with (first | (go_at_call 62; refine (calls_bool (HQ.out d _ (BE.out.mono hB)) HN.out).mono ?_; rintro e w1 ⟨rfl, hb2⟩; have B1 := Lib.hid (belowTo bel hb2 bel.size); clear hb2) | fail)
        go_roundw
        case rel => exact ⟨i + 1, by omega, by go_num, by rw [HT.out, idxF_miss HD.out HN.out], B1.out⟩
        case measure => simp [intOf]; omega
    · have HE := Lib.hid (idxF_end (q := q) (rs := l) (k := i) (by omega))
      go_wp2
      go_ret
      exact ⟨ret_int (by rw [HT.out, HE.out]), bel⟩
theorem ix_insu_lit (v : Value) (l : List Us) (b1 b2 : Nat) (q : Us → Bool) (B : Nat) (r : Int) (w : World) (sl : SlU w v l) (hB : B ≤ w.heap.size) (hq : ∀ (d : Us) (wx : World), Below B w wx → Calls Try.prog 62 #[.agg #[.int .i64 d.s, .int .i64 d.o, .int .i64 d.p, .int .i64 d.m], .pointer (some ⟨b1, 0, none⟩), .pointer (some ⟨b2, 0, none⟩)] wx fun e w' => e = .returned (.bool (q d)) ∧ Below wx.heap.size wx w') (h : idxD q l = r) :
    Calls Try.prog 61 #[v, .func (.func 62) #[] #[.pointer (some ⟨b1, 0, none⟩), .pointer (some ⟨b2, 0, none⟩)]] w fun e w' => e = .returned (.int .i64 r) ∧ Below w.heap.size w w' := by
  rw [← h]; exact ix_insu v l b1 b2 q B w sl hB hq

set_option linter.unusedSimpArgs false in
set_option linter.unusedVariables false in
set_option maxRecDepth 100000 in
set_option maxHeartbeats 2000000 in
theorem ix_insg (v : Value) (l : List Gr) (b1 b2 : Nat) (q : Gr → Bool) (B : Nat) (w : World) (sl : SlG w v l) (hB : B ≤ w.heap.size) (hq : ∀ (d : Gr) (wx : World), Below B w wx → Calls Try.prog 66 #[.agg #[.int .i64 d.s, .int .i64 d.o, .int .i64 d.p, .int .i64 d.m, .int .i64 d.u], .pointer (some ⟨b1, 0, none⟩), .pointer (some ⟨b2, 0, none⟩)] wx fun e w' => e = .returned (.bool (q d)) ∧ Below wx.heap.size wx w') :
    Calls Try.prog 65 #[v, .func (.func 66) #[] #[.pointer (some ⟨b1, 0, none⟩), .pointer (some ⟨b2, 0, none⟩)]] w fun e w' => e = .returned (.int .i64 (idxD q l)) ∧ Below w.heap.size w w' := by
  obtain ⟨p, cap, e0, hlc, hcm, hpn⟩ := sl.form l.length rfl
  subst e0
  have SL := Lib.hid sl
  unfold maxLen at hcm
  clear hpn sl
  have HQ := Lib.hid hq
  clear hq
  go_enter Try.func65, Try.ntmps65
  go_wp2
  go_loopw [8] (fun ii wr => ∃ (i : Nat), i ≤ l.length ∧ ii = .int .i64 i ∧ idxD q l = idxF q (l.drop i) i ∧ Below w.heap.size w wr) (fun i _ => l.length - (intOf i).toNat)
  case atStart => exact ⟨0, by omega, rfl, rfl, Below.refl _ _⟩
  case round =>
    obtain ⟨i, hi, rfl, hT, bel⟩ := hrel
    have HT := Lib.hid hT
    clear hT
    by_cases hlt : i < l.length
    · obtain ⟨d, b, off, hd, rfl, hbl, _, d0, d1, d2, d3, d4⟩ := SL.out.atG bel hlt
      have j0 : (0 : Int) ≤ (i : Int) := Int.natCast_nonneg _
      have j1 : (i : Int) < (l.length : Int) := by omega
      have HD := Lib.hid hd
      have BE := Lib.hid bel
      clear hd
      cases hn : q d with
      | true =>
        have HN := Lib.hid hn
        clear hn
        go_wp2_with (first | (go_at_call 66; refine (calls_bool (HQ.out d _ (BE.out.mono hB)) HN.out).mono ?_; rintro e w1 ⟨rfl, hb2⟩; have B1 := Lib.hid (belowTo bel hb2 bel.size); clear hb2) | fail)
        go_ret
        exact ⟨ret_int (by rw [HT.out, idxF_hit HD.out HN.out]), B1.out⟩
      | false =>
        have HN := Lib.hid hn
        clear hn
        go_wp2_with (first | (go_at_call 66; refine (calls_bool (HQ.out d _ (BE.out.mono hB)) HN.out).mono ?_; rintro e w1 ⟨rfl, hb2⟩; have B1 := Lib.hid (belowTo bel hb2 bel.size); clear hb2) | fail)
        go_roundw
        case rel => exact ⟨i + 1, by omega, by go_num, by rw [HT.out, idxF_miss HD.out HN.out], B1.out⟩
        case measure => simp [intOf]; omega
    · have HE := Lib.hid (idxF_end (q := q) (rs := l) (k := i) (by omega))
      go_wp2
      go_ret
      exact ⟨ret_int (by rw [HT.out, HE.out]), bel⟩
theorem ix_insg_lit (v : Value) (l : List Gr) (b1 b2 : Nat) (q : Gr → Bool) (B : Nat) (r : Int) (w : World) (sl : SlG w v l) (hB : B ≤ w.heap.size) (hq : ∀ (d : Gr) (wx : World), Below B w wx → Calls Try.prog 66 #[.agg #[.int .i64 d.s, .int .i64 d.o, .int .i64 d.p, .int .i64 d.m, .int .i64 d.u], .pointer (some ⟨b1, 0, none⟩), .pointer (some ⟨b2, 0, none⟩)] wx fun e w' => e = .returned (.bool (q d)) ∧ Below wx.heap.size wx w') (h : idxD q l = r) :
    Calls Try.prog 65 #[v, .func (.func 66) #[] #[.pointer (some ⟨b1, 0, none⟩), .pointer (some ⟨b2, 0, none⟩)]] w fun e w' => e = .returned (.int .i64 r) ∧ Below w.heap.size w w' := by
  rw [← h]; exact ix_insg v l b1 b2 q B w sl hB hq

set_option linter.unusedSimpArgs false in
set_option linter.unusedVariables false in
set_option maxRecDepth 100000 in
set_option maxHeartbeats 2000000 in
theorem ix_wou (v : Value) (l : List Us) (b1 b2 : Nat) (q : Us → Bool) (B : Nat) (w : World) (sl : SlU w v l) (hB : B ≤ w.heap.size) (hq : ∀ (d : Us) (wx : World), Below B w wx → Calls Try.prog 69 #[.agg #[.int .i64 d.s, .int .i64 d.o, .int .i64 d.p, .int .i64 d.m], .pointer (some ⟨b1, 0, none⟩), .pointer (some ⟨b2, 0, none⟩)] wx fun e w' => e = .returned (.bool (q d)) ∧ Below wx.heap.size wx w') :
    Calls Try.prog 61 #[v, .func (.func 69) #[] #[.pointer (some ⟨b1, 0, none⟩), .pointer (some ⟨b2, 0, none⟩)]] w fun e w' => e = .returned (.int .i64 (idxD q l)) ∧ Below w.heap.size w w' := by
  obtain ⟨p, cap, e0, hlc, hcm, hpn⟩ := sl.form l.length rfl
  subst e0
  have SL := Lib.hid sl
  unfold maxLen at hcm
  clear hpn sl
  have HQ := Lib.hid hq
  clear hq
  go_enter Try.func61, Try.ntmps61
  go_wp2
  go_loopw [8] (fun ii wr => ∃ (i : Nat), i ≤ l.length ∧ ii = .int .i64 i ∧ idxD q l = idxF q (l.drop i) i ∧ Below w.heap.size w wr) (fun i _ => l.length - (intOf i).toNat)
  case atStart => exact ⟨0, by omega, rfl, rfl, Below.refl _ _⟩
  case round =>
    obtain ⟨i, hi, rfl, hT, bel⟩ := hrel
    have HT := Lib.hid hT
    clear hT
    by_cases hlt : i < l.length
    · obtain ⟨d, b, off, hd, rfl, hbl, _, d0, d1, d2, d3⟩ := SL.out.atU bel hlt
      have j0 : (0 : Int) ≤ (i : Int) := Int.natCast_nonneg _
      have j1 : (i : Int) < (l.length : Int) := by omega
      have HD := Lib.hid hd
      have BE := Lib.hid bel
      clear hd
      cases hn : q d with
      | true =>
        have HN := Lib.hid hn
        clear hn
        go_wp2_with (first | (go_at_call 69; refine (calls_bool (HQ.out d _ (BE.out.mono hB)) HN.out).mono ?_; rintro e w1 ⟨rfl, hb2⟩; have B1 := Lib.hid (belowTo bel hb2 bel.size); clear hb2) | fail)
        go_ret
        exact ⟨ret_int (by rw [HT.out, idxF_hit HD.out HN.out]), B1.out⟩
      | false =>
        have HN := Lib.hid hn
        clear hn
        go_wp2_with (first | (go_at_call 69; refine (calls_bool (HQ.out d _ (BE.out.mono hB)) HN.out).mono ?_; rintro e w1 ⟨rfl, hb2⟩; have B1 := Lib.hid (belowTo bel hb2 bel.size); clear hb2) | fail)
        go_roundw
        case rel => exact ⟨i + 1, by omega, by go_num, by rw [HT.out, idxF_miss HD.out HN.out], B1.out⟩
        case measure => simp [intOf]; omega
    · have HE := Lib.hid (idxF_end (q := q) (rs := l) (k := i) (by omega))
      go_wp2
      go_ret
      exact ⟨ret_int (by rw [HT.out, HE.out]), bel⟩
theorem ix_wou_lit (v : Value) (l : List Us) (b1 b2 : Nat) (q : Us → Bool) (B : Nat) (r : Int) (w : World) (sl : SlU w v l) (hB : B ≤ w.heap.size) (hq : ∀ (d : Us) (wx : World), Below B w wx → Calls Try.prog 69 #[.agg #[.int .i64 d.s, .int .i64 d.o, .int .i64 d.p, .int .i64 d.m], .pointer (some ⟨b1, 0, none⟩), .pointer (some ⟨b2, 0, none⟩)] wx fun e w' => e = .returned (.bool (q d)) ∧ Below wx.heap.size wx w') (h : idxD q l = r) :
    Calls Try.prog 61 #[v, .func (.func 69) #[] #[.pointer (some ⟨b1, 0, none⟩), .pointer (some ⟨b2, 0, none⟩)]] w fun e w' => e = .returned (.int .i64 r) ∧ Below w.heap.size w w' := by
  rw [← h]; exact ix_wou v l b1 b2 q B w sl hB hq

set_option linter.unusedSimpArgs false in
set_option linter.unusedVariables false in
set_option maxRecDepth 100000 in
set_option maxHeartbeats 2000000 in
theorem ix_wog (v : Value) (l : List Gr) (b1 b2 : Nat) (q : Gr → Bool) (B : Nat) (w : World) (sl : SlG w v l) (hB : B ≤ w.heap.size) (hq : ∀ (d : Gr) (wx : World), Below B w wx → Calls Try.prog 71 #[.agg #[.int .i64 d.s, .int .i64 d.o, .int .i64 d.p, .int .i64 d.m, .int .i64 d.u], .pointer (some ⟨b1, 0, none⟩), .pointer (some ⟨b2, 0, none⟩)] wx fun e w' => e = .returned (.bool (q d)) ∧ Below wx.heap.size wx w') :
    Calls Try.prog 65 #[v, .func (.func 71) #[] #[.pointer (some ⟨b1, 0, none⟩), .pointer (some ⟨b2, 0, none⟩)]] w fun e w' => e = .returned (.int .i64 (idxD q l)) ∧ Below w.heap.size w w' := by
  obtain ⟨p, cap, e0, hlc, hcm, hpn⟩ := sl.form l.length rfl
  subst e0
  have SL := Lib.hid sl
  unfold maxLen at hcm
  clear hpn sl
  have HQ := Lib.hid hq
  clear hq
  go_enter Try.func65, Try.ntmps65
  go_wp2
  go_loopw [8] (fun ii wr => ∃ (i : Nat), i ≤ l.length ∧ ii = .int .i64 i ∧ idxD q l = idxF q (l.drop i) i ∧ Below w.heap.size w wr) (fun i _ => l.length - (intOf i).toNat)
  case atStart => exact ⟨0, by omega, rfl, rfl, Below.refl _ _⟩
  case round =>
    obtain ⟨i, hi, rfl, hT, bel⟩ := hrel
    have HT := Lib.hid hT
    clear hT
    by_cases hlt : i < l.length
    · obtain ⟨d, b, off, hd, rfl, hbl, _, d0, d1, d2, d3, d4⟩ := SL.out.atG bel hlt
      have j0 : (0 : Int) ≤ (i : Int) := Int.natCast_nonneg _
      have j1 : (i : Int) < (l.length : Int) := by omega
      have HD := Lib.hid hd
      have BE := Lib.hid bel
      clear hd
      cases hn : q d with
      | true =>
        have HN := Lib.hid hn
        clear hn
        go_wp2_with (first | (go_at_call 71; refine (calls_bool (HQ.out d _ (BE.out.mono hB)) HN.out).mono ?_; rintro e w1 ⟨rfl, hb2⟩; have B1 := Lib.hid (belowTo bel hb2 bel.size); clear hb2) | fail)
        go_ret
        exact ⟨ret_int (by rw [HT.out, idxF_hit HD.out HN.out]), B1.out⟩
      | false =>
        have HN := Lib.hid hn
        clear hn
        go_wp2_with (first | (go_at_call 71; refine (calls_bool (HQ.out d _ (BE.out.mono hB)) HN.out).mono ?_; rintro e w1 ⟨rfl, hb2⟩; have B1 := Lib.hid (belowTo bel hb2 bel.size); clear hb2) | fail)
        go_roundw
        case rel => exact ⟨i + 1, by omega, by go_num, by rw [HT.out, idxF_miss HD.out HN.out], B1.out⟩
        case measure => simp [intOf]; omega
    · have HE := Lib.hid (idxF_end (q := q) (rs := l) (k := i) (by omega))
      go_wp2
      go_ret
      exact ⟨ret_int (by rw [HT.out, HE.out]), bel⟩
theorem ix_wog_lit (v : Value) (l : List Gr) (b1 b2 : Nat) (q : Gr → Bool) (B : Nat) (r : Int) (w : World) (sl : SlG w v l) (hB : B ≤ w.heap.size) (hq : ∀ (d : Gr) (wx : World), Below B w wx → Calls Try.prog 71 #[.agg #[.int .i64 d.s, .int .i64 d.o, .int .i64 d.p, .int .i64 d.m, .int .i64 d.u], .pointer (some ⟨b1, 0, none⟩), .pointer (some ⟨b2, 0, none⟩)] wx fun e w' => e = .returned (.bool (q d)) ∧ Below wx.heap.size wx w') (h : idxD q l = r) :
    Calls Try.prog 65 #[v, .func (.func 71) #[] #[.pointer (some ⟨b1, 0, none⟩), .pointer (some ⟨b2, 0, none⟩)]] w fun e w' => e = .returned (.int .i64 r) ∧ Below w.heap.size w w' := by
  rw [← h]; exact ix_wog v l b1 b2 q B w sl hB hq

set_option linter.unusedSimpArgs false in
set_option linter.unusedVariables false in
set_option maxRecDepth 100000 in
set_option maxHeartbeats 2000000 in
theorem ix_woa (v : Value) (l : List Ak) (b1 b2 : Nat) (q : Ak → Bool) (B : Nat) (w : World) (sl : SlA w v l) (hB : B ≤ w.heap.size) (hq : ∀ (d : Ak) (wx : World), Below B w wx → Calls Try.prog 73 #[.agg #[.int .i64 d.s, .int .i64 d.o, .int .i64 d.p], .pointer (some ⟨b1, 0, none⟩), .pointer (some ⟨b2, 0, none⟩)] wx fun e w' => e = .returned (.bool (q d)) ∧ Below wx.heap.size wx w') :
    Calls Try.prog 76 #[v, .func (.func 73) #[] #[.pointer (some ⟨b1, 0, none⟩), .pointer (some ⟨b2, 0, none⟩)]] w fun e w' => e = .returned (.int .i64 (idxD q l)) ∧ Below w.heap.size w w' := by
  obtain ⟨p, cap, e0, hlc, hcm, hpn⟩ := sl.form l.length rfl
  subst e0
  have SL := Lib.hid sl
  unfold maxLen at hcm
  clear hpn sl
  have HQ := Lib.hid hq
  clear hq
  go_enter Try.func76, Try.ntmps76
  go_wp2
  go_loopw [8] (fun ii wr => ∃ (i : Nat), i ≤ l.length ∧ ii = .int .i64 i ∧ idxD q l = idxF q (l.drop i) i ∧ Below w.heap.size w wr) (fun i _ => l.length - (intOf i).toNat)
  case atStart => exact ⟨0, by omega, rfl, rfl, Below.refl _ _⟩
  case round =>
    obtain ⟨i, hi, rfl, hT, bel⟩ := hrel
    have HT := Lib.hid hT
    clear hT
    by_cases hlt : i < l.length
    · obtain ⟨d, b, off, hd, rfl, hbl, _, d0, d1, d2⟩ := SL.out.atA bel hlt
      have j0 : (0 : Int) ≤ (i : Int) := Int.natCast_nonneg _
      have j1 : (i : Int) < (l.length : Int) := by omega
      have HD := Lib.hid hd
      have BE := Lib.hid bel
      clear hd
      cases hn : q d with
      | true =>
        have HN := Lib.hid hn
        clear hn
        go_wp2_with (first | (go_at_call 73; refine (calls_bool (HQ.out d _ (BE.out.mono hB)) HN.out).mono ?_; rintro e w1 ⟨rfl, hb2⟩; have B1 := Lib.hid (belowTo bel hb2 bel.size); clear hb2) | fail)
        go_ret
        exact ⟨ret_int (by rw [HT.out, idxF_hit HD.out HN.out]), B1.out⟩
      | false =>
        have HN := Lib.hid hn
        clear hn
        go_wp2_with (first | (go_at_call 73; refine (calls_bool (HQ.out d _ (BE.out.mono hB)) HN.out).mono ?_; rintro e w1 ⟨rfl, hb2⟩; have B1 := Lib.hid (belowTo bel hb2 bel.size); clear hb2) | fail)
        go_roundw
        case rel => exact ⟨i + 1, by omega, by go_num, by rw [HT.out, idxF_miss HD.out HN.out], B1.out⟩
        case measure => simp [intOf]; omega
    · have HE := Lib.hid (idxF_end (q := q) (rs := l) (k := i) (by omega))
      go_wp2
      go_ret
      exact ⟨ret_int (by rw [HT.out, HE.out]), bel⟩
theorem ix_woa_lit (v : Value) (l : List Ak) (b1 b2 : Nat) (q : Ak → Bool) (B : Nat) (r : Int) (w : World) (sl : SlA w v l) (hB : B ≤ w.heap.size) (hq : ∀ (d : Ak) (wx : World), Below B w wx → Calls Try.prog 73 #[.agg #[.int .i64 d.s, .int .i64 d.o, .int .i64 d.p], .pointer (some ⟨b1, 0, none⟩), .pointer (some ⟨b2, 0, none⟩)] wx fun e w' => e = .returned (.bool (q d)) ∧ Below wx.heap.size wx w') (h : idxD q l = r) :
    Calls Try.prog 76 #[v, .func (.func 73) #[] #[.pointer (some ⟨b1, 0, none⟩), .pointer (some ⟨b2, 0, none⟩)]] w fun e w' => e = .returned (.int .i64 r) ∧ Below w.heap.size w w' := by
  rw [← h]; exact ix_woa v l b1 b2 q B w sl hB hq

set_option linter.unusedSimpArgs false in
set_option linter.unusedVariables false in
set_option maxRecDepth 100000 in
set_option maxHeartbeats 2000000 in
theorem cf_bz1 (v : Value) (l : List Us) (b1 : Nat) (z : Int) (r : Bool) (w : World) (sl : SlU w v l) (hb : b1 < w.heap.size) (c0 : w.cell? ⟨b1, 0, none⟩ = some (.int .i64 z)) (h : l.any (fun d => d.s == z) = r) :
    Calls Try.prog 49 #[v, .func (.func 50) #[] #[.pointer (some ⟨b1, 0, none⟩)]] w fun e w' => e = .returned (.bool r) ∧ Below w.heap.size w w' := by
  rw [← idx_any] at h
  obtain ⟨F, hF⟩ : ∃ F, idxD (fun d : Us => d.s == z) l = F := ⟨_, rfl⟩
  rw [hF] at h
  have HF := Lib.hid hF
  have HR := Lib.hid h
  have SL := Lib.hid sl
  have C0 := Lib.hid c0
  have HC := Lib.hid (show ∀ (d : Us) (wx : World), Below w.heap.size w wx → Calls Try.prog 50 #[.agg #[.int .i64 d.s, .int .i64 d.o, .int .i64 d.p, .int .i64 d.m], .pointer (some ⟨b1, 0, none⟩)] wx fun e w' => e = .returned (.bool ((fun d : Us => d.s == z) d)) ∧ Below wx.heap.size wx w' from fun d wx hbx => bz1_any b1 z d wx (Nat.lt_of_lt_of_le hb hbx.size) ((hbx.cell (p := ⟨b1, 0, none⟩) hb).trans c0))
  clear hF h c0
  go_enter Try.func49, Try.ntmps49
  go_wp2_with (first | (go_at_call 61; refine (ix_bz1_lit v l b1 (fun d => d.s == z) w.heap.size F _ SL.out (Nat.le_refl _) HC.out HF.out).mono ?_; rintro e w1 ⟨rfl, hb2⟩) | fail)
  all_goals (go_ret; exact ⟨ret_bool (by rw [← HR.out]), hb2⟩)

set_option linter.unusedSimpArgs false in
set_option linter.unusedVariables false in
set_option maxRecDepth 100000 in
set_option maxHeartbeats 2000000 in
theorem cf_bz2 (v : Value) (l : List Gr) (b1 : Nat) (z : Int) (r : Bool) (w : World) (sl : SlG w v l) (hb : b1 < w.heap.size) (c0 : w.cell? ⟨b1, 0, none⟩ = some (.int .i64 z)) (h : l.any (fun d => d.s == z) = r) :
    Calls Try.prog 51 #[v, .func (.func 52) #[] #[.pointer (some ⟨b1, 0, none⟩)]] w fun e w' => e = .returned (.bool r) ∧ Below w.heap.size w w' := by
  rw [← idx_any] at h
  obtain ⟨F, hF⟩ : ∃ F, idxD (fun d : Gr => d.s == z) l = F := ⟨_, rfl⟩
  rw [hF] at h
  have HF := Lib.hid hF
  have HR := Lib.hid h
  have SL := Lib.hid sl
  have C0 := Lib.hid c0
  have HC := Lib.hid (show ∀ (d : Gr) (wx : World), Below w.heap.size w wx → Calls Try.prog 52 #[.agg #[.int .i64 d.s, .int .i64 d.o, .int .i64 d.p, .int .i64 d.m, .int .i64 d.u], .pointer (some ⟨b1, 0, none⟩)] wx fun e w' => e = .returned (.bool ((fun d : Gr => d.s == z) d)) ∧ Below wx.heap.size wx w' from fun d wx hbx => bz2_any b1 z d wx (Nat.lt_of_lt_of_le hb hbx.size) ((hbx.cell (p := ⟨b1, 0, none⟩) hb).trans c0))
  clear hF h c0
  go_enter Try.func51, Try.ntmps51
  go_wp2_with (first | (go_at_call 65; refine (ix_bz2_lit v l b1 (fun d => d.s == z) w.heap.size F _ SL.out (Nat.le_refl _) HC.out HF.out).mono ?_; rintro e w1 ⟨rfl, hb2⟩) | fail)
  all_goals (go_ret; exact ⟨ret_bool (by rw [← HR.out]), hb2⟩)

set_option linter.unusedSimpArgs false in
set_option linter.unusedVariables false in
set_option maxRecDepth 100000 in
set_option maxHeartbeats 2000000 in
theorem busy_any (vu vg va : Value) (us : List Us) (gs : List Gr) (z : Int) (w : World) (su : SlU w vu us) (sg : SlG w vg gs) : Calls Try.prog 19 #[.agg #[vu, vg, va], .int .i64 z] w fun e w' => e = .returned (.bool (bsyB z us gs)) ∧ Below w.heap.size w w' := by
  have SU := Lib.hid su
  have SG := Lib.hid sg
  obtain ⟨RU, hu⟩ : ∃ RU, us.any (fun d => d.s == z) = RU := ⟨_, rfl⟩
  obtain ⟨RG, hg⟩ : ∃ RG, gs.any (fun d => d.s == z) = RG := ⟨_, rfl⟩
  have HR := Lib.hid (show bsyB z us gs = (RU || RG) by rw [← hu, ← hg]; rfl)
  have HU := Lib.hid hu
  have HG := Lib.hid hg
  clear hu hg su sg
  cases RU with
  | true =>
    go_enter Try.func19, Try.ntmps19
    go_wp2_with fail
    refine (cf_bz1 _ us (w.heap.size + 1) z true _ (SU.out.below (((Below.refl _ _).alloc (Nat.le_refl _) _).alloc (by simp) _)) (by simp) ((own_at (w := w.alloc (.cells #[vu, vg, va] 26)) [.int .i64 z] 3 (by simp)).cell (i := 0) rfl) HU.out).mono ?_
    rintro e w1 ⟨rfl, hb⟩
    have oT : Own w1 w.heap.size [vu, vg, va] 26 := ((own_at _ _ rfl).alloc _).below hb
    have oZ : Own w1 (w.heap.size + 1) [.int .i64 z] 3 := (own_at _ _ (by simp)).below hb
    have bel := belowTo (((Below.refl w.heap.size w).alloc (by simp) _).alloc (by simp) _) hb (by simp; omega)
    clear hb
    obtain ⟨cT0, cT1, cT2, fT, zT⟩ := own3 oT
    obtain ⟨cZ0, fZ, zZ⟩ := own1 oZ
    go_wp2_with fail
    go_ret
    exact ⟨ret_bool (by rw [HR.out]; rfl), bel⟩
  | false =>
    go_enter Try.func19, Try.ntmps19
    go_wp2_with fail
    refine (cf_bz1 _ us (w.heap.size + 1) z false _ (SU.out.below (((Below.refl _ _).alloc (Nat.le_refl _) _).alloc (by simp) _)) (by simp) ((own_at (w := w.alloc (.cells #[vu, vg, va] 26)) [.int .i64 z] 3 (by simp)).cell (i := 0) rfl) HU.out).mono ?_
    rintro e w1 ⟨rfl, hb⟩
    have oT : Own w1 w.heap.size [vu, vg, va] 26 := ((own_at _ _ rfl).alloc _).below hb
    have oZ : Own w1 (w.heap.size + 1) [.int .i64 z] 3 := (own_at _ _ (by simp)).below hb
    have bel := belowTo (((Below.refl w.heap.size w).alloc (by simp) _).alloc (by simp) _) hb (by simp; omega)
    clear hb
    obtain ⟨cT0, cT1, cT2, fT, zT⟩ := own3 oT
    obtain ⟨cZ0, fZ, zZ⟩ := own1 oZ
    go_wp2_with fail
    refine (cf_bz2 _ gs (w.heap.size + 1) z RG _ (SG.out.below bel) zZ cZ0 HG.out).mono ?_
    rintro e w2 ⟨rfl, hb⟩
    replace oT := oT.below hb
    replace oZ := oZ.below hb
    replace bel := belowTo bel hb (by exact bel.size)
    clear hb
    clear cT0 cT1 cT2 fT zT cZ0 fZ zZ
    obtain ⟨cT0, cT1, cT2, fT, zT⟩ := own3 oT
    obtain ⟨cZ0, fZ, zZ⟩ := own1 oZ
    go_wp2_with fail
    go_ret
    exact ⟨ret_bool (by rw [HR.out]; simp), bel⟩
theorem busy_lit (vu vg va : Value) (us : List Us) (gs : List Gr) (z : Int) (w : World) (su : SlU w vu us) (sg : SlG w vg gs) (x : Bool) (h : bsyB z us gs = x) : Calls Try.prog 19 #[.agg #[vu, vg, va], .int .i64 z] w fun e w' => e = .returned (.bool x) ∧ Below w.heap.size w w' := by
  rw [← h]; exact busy_any vu vg va us gs z w su sg

set_option linter.unusedSimpArgs false in
set_option linter.unusedVariables false in
set_option maxRecDepth 100000 in
set_option maxHeartbeats 2000000 in
theorem rbusy_any (vu vg va : Value) (us : List Us) (gs : List Gr) (z : Int) (w : World) (su : SlU w vu us) (sg : SlG w vg gs) (u70 : us.length ≤ 70) (g70 : gs.length ≤ 70) : Calls Try.prog 20 #[.agg #[vu, vg, va], .int .i64 z] w fun e w' => e = .returned (.bool (bsyB z us gs)) ∧ Below w.heap.size w w' := by
  obtain ⟨pu, cu, e0, hlu, hcu, _⟩ := su.form us.length rfl
  subst e0
  obtain ⟨pg, cg, e0, hlg, hcg, _⟩ := sg.form gs.length rfl
  subst e0
  go_enter Try.func20, Try.ntmps20
  have SU := Lib.hid (su.below (belowNew w (.cells #[.slice pu us.length cu, .slice pg gs.length cg, va] 26)))
  have SG := Lib.hid (sg.below (belowNew w (.cells #[.slice pu us.length cu, .slice pg gs.length cg, va] 26)))
  clear su sg
  go_wp2_with fail
  have OT := Lib.hid (own_at (w := w) [.slice pu us.length cu, .slice pg gs.length cg, va] 26 rfl)
  have BX := Lib.hid (belowNew w (.cells #[.slice pu us.length cu, .slice pg gs.length cg, va] 26))
  change Code.wp _ _ _ _ (w.alloc (.cells #[.slice pu us.length cu, .slice pg gs.length cg, va] 26))
  generalize w.alloc (.cells #[.slice pu us.length cu, .slice pg gs.length cg, va] 26) = w1 at OT BX SU SG ⊢
  obtain ⟨t0, t1, t2, fT, zT⟩ := own3 OT.out
  go_loop [5] (fun ii => ∃ (i : Nat), i ≤ us.length ∧ ii = .int .i64 i ∧ us.any (fun d => d.s == z) = (us.drop i).any (fun d => d.s == z)) (fun i => us.length - (intOf i).toNat)
  case atStart => exact ⟨0, by omega, rfl, rfl⟩
  case round =>
    obtain ⟨i, hi, rfl, hT⟩ := hrel
    have HTU := Lib.hid hT
    clear hT
    have j0 : (0 : Int) ≤ (i : Int) := Int.natCast_nonneg _
    by_cases hlt : i < us.length
    · obtain ⟨d, b, off, hd, rfl, hbl, _, d0, d1, d2, d3⟩ := SU.out.atU (Below.refl _ _) hlt
      have j1 : (i : Int) < (us.length : Int) := by omega
      have HS := Lib.hid (show (us.drop i).any (fun d => d.s == z) = ((d.s == z) || (us.drop (i + 1)).any (fun d => d.s == z)) by rw [List.drop_eq_getElem_cons hlt, show us[i] = d from (List.getElem?_eq_some_iff.1 hd).2]; rfl)
      clear hd
      cases hn : (d.s == z) with
      | true =>
        have HN := Lib.hid hn
        go_wp2_with fail
        go_ret
        exact ⟨ret_bool (by rw [bsyB, HTU.out, HS.out, HN.out]; simp), BX.out⟩
      | false =>
        have HN := Lib.hid hn
        go_wp2_with fail
        go_round
        case rel => exact ⟨i + 1, by omega, by go_num, by rw [HTU.out, HS.out, HN.out]; rfl⟩
        case measure => simp [intOf]; omega
    · have HEU := Lib.hid (show us.any (fun d => d.s == z) = false by rw [HTU.out, List.drop_of_length_le (by omega)]; rfl)
      go_wp2_with fail
      clear hlt hi j0 HTU
      go_loop [6] (fun ii => ∃ (i : Nat), i ≤ gs.length ∧ ii = .int .i64 i ∧ gs.any (fun d => d.s == z) = (gs.drop i).any (fun d => d.s == z)) (fun i => gs.length - (intOf i).toNat)
      case atStart => exact ⟨0, by omega, rfl, rfl⟩
      case round =>
        obtain ⟨i, hi, rfl, hT⟩ := hrel
        have HTG := Lib.hid hT
        clear hT
        have j0 : (0 : Int) ≤ (i : Int) := Int.natCast_nonneg _
        by_cases hlt : i < gs.length
        · obtain ⟨d, b, off, hd, rfl, hbl, _, d0, d1, d2, d3, d4⟩ := SG.out.atG (Below.refl _ _) hlt
          have j1 : (i : Int) < (gs.length : Int) := by omega
          have HS := Lib.hid (show (gs.drop i).any (fun d => d.s == z) = ((d.s == z) || (gs.drop (i + 1)).any (fun d => d.s == z)) by rw [List.drop_eq_getElem_cons hlt, show gs[i] = d from (List.getElem?_eq_some_iff.1 hd).2]; rfl)
          clear hd
          cases hn : (d.s == z) with
          | true =>
            have HN := Lib.hid hn
            go_wp2_with fail
            go_ret
            exact ⟨ret_bool (by rw [bsyB, HEU.out, HTG.out, HS.out, HN.out]; simp), BX.out⟩
          | false =>
            have HN := Lib.hid hn
            go_wp2_with fail
            go_round
            case rel => exact ⟨i + 1, by omega, by go_num, by rw [HTG.out, HS.out, HN.out]; rfl⟩
            case measure => simp [intOf]; omega
        · have HEG := Lib.hid (show gs.any (fun d => d.s == z) = false by rw [HTG.out, List.drop_of_length_le (by omega)]; rfl)
          go_wp2_with fail
          go_ret
          exact ⟨ret_bool (by rw [bsyB, HEU.out, HEG.out]; rfl), BX.out⟩
theorem rbusy_lit (vu vg va : Value) (us : List Us) (gs : List Gr) (z : Int) (w : World) (su : SlU w vu us) (sg : SlG w vg gs) (u70 : us.length ≤ 70) (g70 : gs.length ≤ 70) (x : Bool) (h : bsyB z us gs = x) : Calls Try.prog 20 #[.agg #[vu, vg, va], .int .i64 z] w fun e w' => e = .returned (.bool x) ∧ Below w.heap.size w w' := by
  rw [← h]; exact rbusy_any vu vg va us gs z w su sg u70 g70

end Go.Proofs.Ytdmadnoijhmbcaa
