/- Searching in slices of uses, grants, asks and what was heard; sending entries. No condition but those named. -/
import Derived.Test.YtmopiifamopidaaGreatPB
import Derived.Deep.DeepCutAuto
import Derived.Deep.MidRow
import Derived.Outline
import Derived.Test.YtmopiifamopidaaGreatPA
set_option linter.unusedVariables false
set_option linter.unusedSimpArgs false
section
namespace Go.Proofs.YtmopiifamopidaaGreat
open Go.RowKit
set_option maxRecDepth 100000 in
set_option maxHeartbeats 2000000 in
theorem ix_bz1 (v : Value) (l : List Us) (b1 : Nat) (q : Us → Bool) (B : Nat) (w : World) (sl : SlU w v l) (hB : B ≤ w.heap.size) (hq : ∀ (d : Us) (wx : World), Below B w wx → Calls Tryz.prog 100 #[.agg #[.int .i64 d.s, .int .i64 d.o, .int .i64 d.p, .int .i64 d.m], .pointer (some ⟨b1, 0, none⟩)] wx fun e w' => e = .returned (.bool (q d)) ∧ Below wx.heap.size wx w') :
  Calls Tryz.prog 89 #[v, .func (.func 100) #[] #[.pointer (some ⟨b1, 0, none⟩)]] w fun e w' => e = .returned (.int .i64 (idxD q l)) ∧ Below w.heap.size w w' := by
 obtain ⟨p, cap, e0, hlc, hcm, hpn⟩ := sl.form l.length rfl
 subst e0
 have SL := Lib.hid sl
 unfold maxLen at hcm
 clear hpn sl
 have HQ := Lib.hid hq
 clear hq
 go_enter Tryz.func89, Tryz.ntmps89
 go_wp2
 go_loopw [8] (fun ii wr => ∃ (i : Nat), i ≤ l.length ∧ ii = .int .i64 i ∧ idxD q l = idxF q (l.drop i) i ∧ Below w.heap.size w wr) (fun i _ => l.length - (intOf i).toNat)
 case atStart => exact ⟨0, by omega, rfl, rfl, Below.refl _ _⟩
 case round =>
  obtain ⟨i, hi, rfl, hT, bel⟩ := hrel
  have HT := Lib.hid hT
  clear hT
  by_cases hlt : i < l.length
  ·obtain ⟨d, b, off, hd, rfl, hbl, _, d0, d1, d2, d3⟩ := SL.out.atU bel hlt
   have j0 : (0 : Int) ≤ (i : Int) := Int.natCast_nonneg _
   have j1 : (i : Int) < (l.length : Int) := by omega
   have HD := Lib.hid hd
   have BE := Lib.hid bel
   clear hd
   cases hn : q d with
   | true =>
    have HN := Lib.hid hn
    clear hn
    go_wp2_with (first | (go_at_call 100; refine (calls_bool (HQ.out d _ (BE.out.mono hB)) HN.out).mono ?_; rintro e w1 ⟨rfl, hb2⟩; have B1 := Lib.hid (belowTo bel hb2 bel.size); clear hb2) | fail)
    go_ret
    exact ⟨ret_int (by rw [HT.out, idxF_hit HD.out HN.out]), B1.out⟩
   | false =>
    have HN := Lib.hid hn
    clear hn
    go_wp2_with (first | (go_at_call 100; refine (calls_bool (HQ.out d _ (BE.out.mono hB)) HN.out).mono ?_; rintro e w1 ⟨rfl, hb2⟩; have B1 := Lib.hid (belowTo bel hb2 bel.size); clear hb2) | fail)
    go_roundw
    case rel => exact ⟨i + 1, by omega, by go_num, by rw [HT.out, idxF_miss HD.out HN.out], B1.out⟩
    case measure => simp [intOf]; omega
  ·have HE := Lib.hid (idxF_end (q := q) (rs := l) (k := i) (by omega))
   go_wp2
   go_ret
   exact ⟨ret_int (by rw [HT.out, HE.out]), bel⟩
theorem ix_bz1_lit (v : Value) (l : List Us) (b1 : Nat) (q : Us → Bool) (B : Nat) (r : Int) (w : World) (sl : SlU w v l) (hB : B ≤ w.heap.size) (hq : ∀ (d : Us) (wx : World), Below B w wx → Calls Tryz.prog 100 #[.agg #[.int .i64 d.s, .int .i64 d.o, .int .i64 d.p, .int .i64 d.m], .pointer (some ⟨b1, 0, none⟩)] wx fun e w' => e = .returned (.bool (q d)) ∧ Below wx.heap.size wx w') (h : idxD q l = r) :
  Calls Tryz.prog 89 #[v, .func (.func 100) #[] #[.pointer (some ⟨b1, 0, none⟩)]] w fun e w' => e = .returned (.int .i64 r) ∧ Below w.heap.size w w' := by
 rw [← h]; exact ix_bz1 v l b1 q B w sl hB hq
set_option maxRecDepth 100000 in
set_option maxHeartbeats 2000000 in
theorem ix_bz2 (v : Value) (l : List Gr) (b1 : Nat) (q : Gr → Bool) (B : Nat) (w : World) (sl : SlG w v l) (hB : B ≤ w.heap.size) (hq : ∀ (d : Gr) (wx : World), Below B w wx → Calls Tryz.prog 101 #[.agg #[.int .i64 d.s, .int .i64 d.o, .int .i64 d.p, .int .i64 d.m, .int .i64 d.u], .pointer (some ⟨b1, 0, none⟩)] wx fun e w' => e = .returned (.bool (q d)) ∧ Below wx.heap.size wx w') :
  Calls Tryz.prog 22 #[v, .func (.func 101) #[] #[.pointer (some ⟨b1, 0, none⟩)]] w fun e w' => e = .returned (.int .i64 (idxD q l)) ∧ Below w.heap.size w w' := by
 obtain ⟨p, cap, e0, hlc, hcm, hpn⟩ := sl.form l.length rfl
 subst e0
 have SL := Lib.hid sl
 unfold maxLen at hcm
 clear hpn sl
 have HQ := Lib.hid hq
 clear hq
 go_enter Tryz.func22, Tryz.ntmps22
 go_wp2
 go_loopw [8] (fun ii wr => ∃ (i : Nat), i ≤ l.length ∧ ii = .int .i64 i ∧ idxD q l = idxF q (l.drop i) i ∧ Below w.heap.size w wr) (fun i _ => l.length - (intOf i).toNat)
 case atStart => exact ⟨0, by omega, rfl, rfl, Below.refl _ _⟩
 case round =>
  obtain ⟨i, hi, rfl, hT, bel⟩ := hrel
  have HT := Lib.hid hT
  clear hT
  by_cases hlt : i < l.length
  ·obtain ⟨d, b, off, hd, rfl, hbl, _, d0, d1, d2, d3, d4⟩ := SL.out.atG bel hlt
   have j0 : (0 : Int) ≤ (i : Int) := Int.natCast_nonneg _
   have j1 : (i : Int) < (l.length : Int) := by omega
   have HD := Lib.hid hd
   have BE := Lib.hid bel
   clear hd
   cases hn : q d with
   | true =>
    have HN := Lib.hid hn
    clear hn
    go_wp2_with (first | (go_at_call 101; refine (calls_bool (HQ.out d _ (BE.out.mono hB)) HN.out).mono ?_; rintro e w1 ⟨rfl, hb2⟩; have B1 := Lib.hid (belowTo bel hb2 bel.size); clear hb2) | fail)
    go_ret
    exact ⟨ret_int (by rw [HT.out, idxF_hit HD.out HN.out]), B1.out⟩
   | false =>
    have HN := Lib.hid hn
    clear hn
    go_wp2_with (first | (go_at_call 101; refine (calls_bool (HQ.out d _ (BE.out.mono hB)) HN.out).mono ?_; rintro e w1 ⟨rfl, hb2⟩; have B1 := Lib.hid (belowTo bel hb2 bel.size); clear hb2) | fail)
    go_roundw
    case rel => exact ⟨i + 1, by omega, by go_num, by rw [HT.out, idxF_miss HD.out HN.out], B1.out⟩
    case measure => simp [intOf]; omega
  ·have HE := Lib.hid (idxF_end (q := q) (rs := l) (k := i) (by omega))
   go_wp2
   go_ret
   exact ⟨ret_int (by rw [HT.out, HE.out]), bel⟩
theorem ix_bz2_lit (v : Value) (l : List Gr) (b1 : Nat) (q : Gr → Bool) (B : Nat) (r : Int) (w : World) (sl : SlG w v l) (hB : B ≤ w.heap.size) (hq : ∀ (d : Gr) (wx : World), Below B w wx → Calls Tryz.prog 101 #[.agg #[.int .i64 d.s, .int .i64 d.o, .int .i64 d.p, .int .i64 d.m, .int .i64 d.u], .pointer (some ⟨b1, 0, none⟩)] wx fun e w' => e = .returned (.bool (q d)) ∧ Below wx.heap.size wx w') (h : idxD q l = r) :
  Calls Tryz.prog 22 #[v, .func (.func 101) #[] #[.pointer (some ⟨b1, 0, none⟩)]] w fun e w' => e = .returned (.int .i64 r) ∧ Below w.heap.size w w' := by
 rw [← h]; exact ix_bz2 v l b1 q B w sl hB hq
set_option maxRecDepth 100000 in
set_option maxHeartbeats 2000000 in
theorem ix_insu (v : Value) (l : List Us) (b1 b2 : Nat) (q : Us → Bool) (B : Nat) (w : World) (sl : SlU w v l) (hB : B ≤ w.heap.size) (hq : ∀ (d : Us) (wx : World), Below B w wx → Calls Tryz.prog 90 #[.agg #[.int .i64 d.s, .int .i64 d.o, .int .i64 d.p, .int .i64 d.m], .pointer (some ⟨b1, 0, none⟩), .pointer (some ⟨b2, 0, none⟩)] wx fun e w' => e = .returned (.bool (q d)) ∧ Below wx.heap.size wx w') :
  Calls Tryz.prog 89 #[v, .func (.func 90) #[] #[.pointer (some ⟨b1, 0, none⟩), .pointer (some ⟨b2, 0, none⟩)]] w fun e w' => e = .returned (.int .i64 (idxD q l)) ∧ Below w.heap.size w w' := by
 obtain ⟨p, cap, e0, hlc, hcm, hpn⟩ := sl.form l.length rfl
 subst e0
 have SL := Lib.hid sl
 unfold maxLen at hcm
 clear hpn sl
 have HQ := Lib.hid hq
 clear hq
 go_enter Tryz.func89, Tryz.ntmps89
 go_wp2
 go_loopw [8] (fun ii wr => ∃ (i : Nat), i ≤ l.length ∧ ii = .int .i64 i ∧ idxD q l = idxF q (l.drop i) i ∧ Below w.heap.size w wr) (fun i _ => l.length - (intOf i).toNat)
 case atStart => exact ⟨0, by omega, rfl, rfl, Below.refl _ _⟩
 case round =>
  obtain ⟨i, hi, rfl, hT, bel⟩ := hrel
  have HT := Lib.hid hT
  clear hT
  by_cases hlt : i < l.length
  ·obtain ⟨d, b, off, hd, rfl, hbl, _, d0, d1, d2, d3⟩ := SL.out.atU bel hlt
   have j0 : (0 : Int) ≤ (i : Int) := Int.natCast_nonneg _
   have j1 : (i : Int) < (l.length : Int) := by omega
   have HD := Lib.hid hd
   have BE := Lib.hid bel
   clear hd
   cases hn : q d with
   | true =>
    have HN := Lib.hid hn
    clear hn
    go_wp2_with (first | (go_at_call 90; refine (calls_bool (HQ.out d _ (BE.out.mono hB)) HN.out).mono ?_; rintro e w1 ⟨rfl, hb2⟩; have B1 := Lib.hid (belowTo bel hb2 bel.size); clear hb2) | fail)
    go_ret
    exact ⟨ret_int (by rw [HT.out, idxF_hit HD.out HN.out]), B1.out⟩
   | false =>
    have HN := Lib.hid hn
    clear hn
    go_wp2_with (first | (go_at_call 90; refine (calls_bool (HQ.out d _ (BE.out.mono hB)) HN.out).mono ?_; rintro e w1 ⟨rfl, hb2⟩; have B1 := Lib.hid (belowTo bel hb2 bel.size); clear hb2) | fail)
    go_roundw
    case rel => exact ⟨i + 1, by omega, by go_num, by rw [HT.out, idxF_miss HD.out HN.out], B1.out⟩
    case measure => simp [intOf]; omega
  ·have HE := Lib.hid (idxF_end (q := q) (rs := l) (k := i) (by omega))
   go_wp2
   go_ret
   exact ⟨ret_int (by rw [HT.out, HE.out]), bel⟩
theorem ix_insu_lit (v : Value) (l : List Us) (b1 b2 : Nat) (q : Us → Bool) (B : Nat) (r : Int) (w : World) (sl : SlU w v l) (hB : B ≤ w.heap.size) (hq : ∀ (d : Us) (wx : World), Below B w wx → Calls Tryz.prog 90 #[.agg #[.int .i64 d.s, .int .i64 d.o, .int .i64 d.p, .int .i64 d.m], .pointer (some ⟨b1, 0, none⟩), .pointer (some ⟨b2, 0, none⟩)] wx fun e w' => e = .returned (.bool (q d)) ∧ Below wx.heap.size wx w') (h : idxD q l = r) :
  Calls Tryz.prog 89 #[v, .func (.func 90) #[] #[.pointer (some ⟨b1, 0, none⟩), .pointer (some ⟨b2, 0, none⟩)]] w fun e w' => e = .returned (.int .i64 r) ∧ Below w.heap.size w w' := by
 rw [← h]; exact ix_insu v l b1 b2 q B w sl hB hq
set_option maxRecDepth 100000 in
set_option maxHeartbeats 2000000 in
theorem ix_insg (v : Value) (l : List Gr) (b1 b2 : Nat) (q : Gr → Bool) (B : Nat) (w : World) (sl : SlG w v l) (hB : B ≤ w.heap.size) (hq : ∀ (d : Gr) (wx : World), Below B w wx → Calls Tryz.prog 98 #[.agg #[.int .i64 d.s, .int .i64 d.o, .int .i64 d.p, .int .i64 d.m, .int .i64 d.u], .pointer (some ⟨b1, 0, none⟩), .pointer (some ⟨b2, 0, none⟩)] wx fun e w' => e = .returned (.bool (q d)) ∧ Below wx.heap.size wx w') :
  Calls Tryz.prog 22 #[v, .func (.func 98) #[] #[.pointer (some ⟨b1, 0, none⟩), .pointer (some ⟨b2, 0, none⟩)]] w fun e w' => e = .returned (.int .i64 (idxD q l)) ∧ Below w.heap.size w w' := by
 obtain ⟨p, cap, e0, hlc, hcm, hpn⟩ := sl.form l.length rfl
 subst e0
 have SL := Lib.hid sl
 unfold maxLen at hcm
 clear hpn sl
 have HQ := Lib.hid hq
 clear hq
 go_enter Tryz.func22, Tryz.ntmps22
 go_wp2
 go_loopw [8] (fun ii wr => ∃ (i : Nat), i ≤ l.length ∧ ii = .int .i64 i ∧ idxD q l = idxF q (l.drop i) i ∧ Below w.heap.size w wr) (fun i _ => l.length - (intOf i).toNat)
 case atStart => exact ⟨0, by omega, rfl, rfl, Below.refl _ _⟩
 case round =>
  obtain ⟨i, hi, rfl, hT, bel⟩ := hrel
  have HT := Lib.hid hT
  clear hT
  by_cases hlt : i < l.length
  ·obtain ⟨d, b, off, hd, rfl, hbl, _, d0, d1, d2, d3, d4⟩ := SL.out.atG bel hlt
   have j0 : (0 : Int) ≤ (i : Int) := Int.natCast_nonneg _
   have j1 : (i : Int) < (l.length : Int) := by omega
   have HD := Lib.hid hd
   have BE := Lib.hid bel
   clear hd
   cases hn : q d with
   | true =>
    have HN := Lib.hid hn
    clear hn
    go_wp2_with (first | (go_at_call 98; refine (calls_bool (HQ.out d _ (BE.out.mono hB)) HN.out).mono ?_; rintro e w1 ⟨rfl, hb2⟩; have B1 := Lib.hid (belowTo bel hb2 bel.size); clear hb2) | fail)
    go_ret
    exact ⟨ret_int (by rw [HT.out, idxF_hit HD.out HN.out]), B1.out⟩
   | false =>
    have HN := Lib.hid hn
    clear hn
    go_wp2_with (first | (go_at_call 98; refine (calls_bool (HQ.out d _ (BE.out.mono hB)) HN.out).mono ?_; rintro e w1 ⟨rfl, hb2⟩; have B1 := Lib.hid (belowTo bel hb2 bel.size); clear hb2) | fail)
    go_roundw
    case rel => exact ⟨i + 1, by omega, by go_num, by rw [HT.out, idxF_miss HD.out HN.out], B1.out⟩
    case measure => simp [intOf]; omega
  ·have HE := Lib.hid (idxF_end (q := q) (rs := l) (k := i) (by omega))
   go_wp2
   go_ret
   exact ⟨ret_int (by rw [HT.out, HE.out]), bel⟩
theorem ix_insg_lit (v : Value) (l : List Gr) (b1 b2 : Nat) (q : Gr → Bool) (B : Nat) (r : Int) (w : World) (sl : SlG w v l) (hB : B ≤ w.heap.size) (hq : ∀ (d : Gr) (wx : World), Below B w wx → Calls Tryz.prog 98 #[.agg #[.int .i64 d.s, .int .i64 d.o, .int .i64 d.p, .int .i64 d.m, .int .i64 d.u], .pointer (some ⟨b1, 0, none⟩), .pointer (some ⟨b2, 0, none⟩)] wx fun e w' => e = .returned (.bool (q d)) ∧ Below wx.heap.size wx w') (h : idxD q l = r) :
  Calls Tryz.prog 22 #[v, .func (.func 98) #[] #[.pointer (some ⟨b1, 0, none⟩), .pointer (some ⟨b2, 0, none⟩)]] w fun e w' => e = .returned (.int .i64 r) ∧ Below w.heap.size w w' := by
 rw [← h]; exact ix_insg v l b1 b2 q B w sl hB hq
set_option maxRecDepth 100000 in
set_option maxHeartbeats 2000000 in
theorem ix_wog (v : Value) (l : List Gr) (b1 b2 : Nat) (q : Gr → Bool) (B : Nat) (w : World) (sl : SlG w v l) (hB : B ≤ w.heap.size) (hq : ∀ (d : Gr) (wx : World), Below B w wx → Calls Tryz.prog 96 #[.agg #[.int .i64 d.s, .int .i64 d.o, .int .i64 d.p, .int .i64 d.m, .int .i64 d.u], .pointer (some ⟨b1, 0, none⟩), .pointer (some ⟨b2, 0, none⟩)] wx fun e w' => e = .returned (.bool (q d)) ∧ Below wx.heap.size wx w') :
  Calls Tryz.prog 22 #[v, .func (.func 96) #[] #[.pointer (some ⟨b1, 0, none⟩), .pointer (some ⟨b2, 0, none⟩)]] w fun e w' => e = .returned (.int .i64 (idxD q l)) ∧ Below w.heap.size w w' := by
 obtain ⟨p, cap, e0, hlc, hcm, hpn⟩ := sl.form l.length rfl
 subst e0
 have SL := Lib.hid sl
 unfold maxLen at hcm
 clear hpn sl
 have HQ := Lib.hid hq
 clear hq
 go_enter Tryz.func22, Tryz.ntmps22
 go_wp2
 go_loopw [8] (fun ii wr => ∃ (i : Nat), i ≤ l.length ∧ ii = .int .i64 i ∧ idxD q l = idxF q (l.drop i) i ∧ Below w.heap.size w wr) (fun i _ => l.length - (intOf i).toNat)
 case atStart => exact ⟨0, by omega, rfl, rfl, Below.refl _ _⟩
 case round =>
  obtain ⟨i, hi, rfl, hT, bel⟩ := hrel
  have HT := Lib.hid hT
  clear hT
  by_cases hlt : i < l.length
  ·obtain ⟨d, b, off, hd, rfl, hbl, _, d0, d1, d2, d3, d4⟩ := SL.out.atG bel hlt
   have j0 : (0 : Int) ≤ (i : Int) := Int.natCast_nonneg _
   have j1 : (i : Int) < (l.length : Int) := by omega
   have HD := Lib.hid hd
   have BE := Lib.hid bel
   clear hd
   cases hn : q d with
   | true =>
    have HN := Lib.hid hn
    clear hn
    go_wp2_with (first | (go_at_call 96; refine (calls_bool (HQ.out d _ (BE.out.mono hB)) HN.out).mono ?_; rintro e w1 ⟨rfl, hb2⟩; have B1 := Lib.hid (belowTo bel hb2 bel.size); clear hb2) | fail)
    go_ret
    exact ⟨ret_int (by rw [HT.out, idxF_hit HD.out HN.out]), B1.out⟩
   | false =>
    have HN := Lib.hid hn
    clear hn
    go_wp2_with (first | (go_at_call 96; refine (calls_bool (HQ.out d _ (BE.out.mono hB)) HN.out).mono ?_; rintro e w1 ⟨rfl, hb2⟩; have B1 := Lib.hid (belowTo bel hb2 bel.size); clear hb2) | fail)
    go_roundw
    case rel => exact ⟨i + 1, by omega, by go_num, by rw [HT.out, idxF_miss HD.out HN.out], B1.out⟩
    case measure => simp [intOf]; omega
  ·have HE := Lib.hid (idxF_end (q := q) (rs := l) (k := i) (by omega))
   go_wp2
   go_ret
   exact ⟨ret_int (by rw [HT.out, HE.out]), bel⟩
theorem ix_wog_lit (v : Value) (l : List Gr) (b1 b2 : Nat) (q : Gr → Bool) (B : Nat) (r : Int) (w : World) (sl : SlG w v l) (hB : B ≤ w.heap.size) (hq : ∀ (d : Gr) (wx : World), Below B w wx → Calls Tryz.prog 96 #[.agg #[.int .i64 d.s, .int .i64 d.o, .int .i64 d.p, .int .i64 d.m, .int .i64 d.u], .pointer (some ⟨b1, 0, none⟩), .pointer (some ⟨b2, 0, none⟩)] wx fun e w' => e = .returned (.bool (q d)) ∧ Below wx.heap.size wx w') (h : idxD q l = r) :
  Calls Tryz.prog 22 #[v, .func (.func 96) #[] #[.pointer (some ⟨b1, 0, none⟩), .pointer (some ⟨b2, 0, none⟩)]] w fun e w' => e = .returned (.int .i64 r) ∧ Below w.heap.size w w' := by
 rw [← h]; exact ix_wog v l b1 b2 q B w sl hB hq
set_option maxRecDepth 100000 in
set_option maxHeartbeats 2000000 in
theorem ix_woa (v : Value) (l : List Ak) (b1 b2 : Nat) (q : Ak → Bool) (B : Nat) (w : World) (sl : SlA w v l) (hB : B ≤ w.heap.size) (hq : ∀ (d : Ak) (wx : World), Below B w wx → Calls Tryz.prog 114 #[.agg #[.int .i64 d.s, .int .i64 d.o, .int .i64 d.p], .pointer (some ⟨b1, 0, none⟩), .pointer (some ⟨b2, 0, none⟩)] wx fun e w' => e = .returned (.bool (q d)) ∧ Below wx.heap.size wx w') :
  Calls Tryz.prog 79 #[v, .func (.func 114) #[] #[.pointer (some ⟨b1, 0, none⟩), .pointer (some ⟨b2, 0, none⟩)]] w fun e w' => e = .returned (.int .i64 (idxD q l)) ∧ Below w.heap.size w w' := by
 obtain ⟨p, cap, e0, hlc, hcm, hpn⟩ := sl.form l.length rfl
 subst e0
 have SL := Lib.hid sl
 unfold maxLen at hcm
 clear hpn sl
 have HQ := Lib.hid hq
 clear hq
 go_enter Tryz.func79, Tryz.ntmps79
 go_wp2
 go_loopw [8] (fun ii wr => ∃ (i : Nat), i ≤ l.length ∧ ii = .int .i64 i ∧ idxD q l = idxF q (l.drop i) i ∧ Below w.heap.size w wr) (fun i _ => l.length - (intOf i).toNat)
 case atStart => exact ⟨0, by omega, rfl, rfl, Below.refl _ _⟩
 case round =>
  obtain ⟨i, hi, rfl, hT, bel⟩ := hrel
  have HT := Lib.hid hT
  clear hT
  by_cases hlt : i < l.length
  ·obtain ⟨d, b, off, hd, rfl, hbl, _, d0, d1, d2⟩ := SL.out.atA bel hlt
   have j0 : (0 : Int) ≤ (i : Int) := Int.natCast_nonneg _
   have j1 : (i : Int) < (l.length : Int) := by omega
   have HD := Lib.hid hd
   have BE := Lib.hid bel
   clear hd
   cases hn : q d with
   | true =>
    have HN := Lib.hid hn
    clear hn
    go_wp2_with (first | (go_at_call 114; refine (calls_bool (HQ.out d _ (BE.out.mono hB)) HN.out).mono ?_; rintro e w1 ⟨rfl, hb2⟩; have B1 := Lib.hid (belowTo bel hb2 bel.size); clear hb2) | fail)
    go_ret
    exact ⟨ret_int (by rw [HT.out, idxF_hit HD.out HN.out]), B1.out⟩
   | false =>
    have HN := Lib.hid hn
    clear hn
    go_wp2_with (first | (go_at_call 114; refine (calls_bool (HQ.out d _ (BE.out.mono hB)) HN.out).mono ?_; rintro e w1 ⟨rfl, hb2⟩; have B1 := Lib.hid (belowTo bel hb2 bel.size); clear hb2) | fail)
    go_roundw
    case rel => exact ⟨i + 1, by omega, by go_num, by rw [HT.out, idxF_miss HD.out HN.out], B1.out⟩
    case measure => simp [intOf]; omega
  ·have HE := Lib.hid (idxF_end (q := q) (rs := l) (k := i) (by omega))
   go_wp2
   go_ret
   exact ⟨ret_int (by rw [HT.out, HE.out]), bel⟩
theorem ix_woa_lit (v : Value) (l : List Ak) (b1 b2 : Nat) (q : Ak → Bool) (B : Nat) (r : Int) (w : World) (sl : SlA w v l) (hB : B ≤ w.heap.size) (hq : ∀ (d : Ak) (wx : World), Below B w wx → Calls Tryz.prog 114 #[.agg #[.int .i64 d.s, .int .i64 d.o, .int .i64 d.p], .pointer (some ⟨b1, 0, none⟩), .pointer (some ⟨b2, 0, none⟩)] wx fun e w' => e = .returned (.bool (q d)) ∧ Below wx.heap.size wx w') (h : idxD q l = r) :
  Calls Tryz.prog 79 #[v, .func (.func 114) #[] #[.pointer (some ⟨b1, 0, none⟩), .pointer (some ⟨b2, 0, none⟩)]] w fun e w' => e = .returned (.int .i64 r) ∧ Below w.heap.size w w' := by
 rw [← h]; exact ix_woa v l b1 b2 q B w sl hB hq
set_option maxRecDepth 100000 in
set_option maxHeartbeats 2000000 in
theorem cf_bz1 (v : Value) (l : List Us) (b1 : Nat) (z : Int) (r : Bool) (w : World) (sl : SlU w v l) (hb : b1 < w.heap.size) (c0 : w.cell? ⟨b1, 0, none⟩ = some (.int .i64 z)) (h : l.any (fun d => d.s == z) = r) :
  Calls Tryz.prog 67 #[v, .func (.func 100) #[] #[.pointer (some ⟨b1, 0, none⟩)]] w fun e w' => e = .returned (.bool r) ∧ Below w.heap.size w w' := by
 rw [← idx_any] at h
 obtain ⟨F, hF⟩ : ∃ F, idxD (fun d : Us => d.s == z) l = F := ⟨_, rfl⟩
 rw [hF] at h
 have HF := Lib.hid hF
 have HR := Lib.hid h
 have SL := Lib.hid sl
 have C0 := Lib.hid c0
 have HC := Lib.hid (show ∀ (d : Us) (wx : World), Below w.heap.size w wx → Calls Tryz.prog 100 #[.agg #[.int .i64 d.s, .int .i64 d.o, .int .i64 d.p, .int .i64 d.m], .pointer (some ⟨b1, 0, none⟩)] wx fun e w' => e = .returned (.bool ((fun d : Us => d.s == z) d)) ∧ Below wx.heap.size wx w' from fun d wx hbx => bz1_any b1 z d wx (Nat.lt_of_lt_of_le hb hbx.size) ((hbx.cell (p := ⟨b1, 0, none⟩) hb).trans c0))
 clear hF h c0
 go_enter Tryz.func67, Tryz.ntmps67
 go_wp2_with (first | (go_at_call 89; refine (ix_bz1_lit v l b1 (fun d => d.s == z) w.heap.size F _ SL.out (Nat.le_refl _) HC.out HF.out).mono ?_; rintro e w1 ⟨rfl, hb2⟩) | fail)
 all_goals (go_ret; exact ⟨ret_bool (by rw [← HR.out]), hb2⟩)
set_option maxRecDepth 100000 in
set_option maxHeartbeats 2000000 in
theorem cf_bz2 (v : Value) (l : List Gr) (b1 : Nat) (z : Int) (r : Bool) (w : World) (sl : SlG w v l) (hb : b1 < w.heap.size) (c0 : w.cell? ⟨b1, 0, none⟩ = some (.int .i64 z)) (h : l.any (fun d => d.s == z) = r) :
  Calls Tryz.prog 76 #[v, .func (.func 101) #[] #[.pointer (some ⟨b1, 0, none⟩)]] w fun e w' => e = .returned (.bool r) ∧ Below w.heap.size w w' := by
 rw [← idx_any] at h
 obtain ⟨F, hF⟩ : ∃ F, idxD (fun d : Gr => d.s == z) l = F := ⟨_, rfl⟩
 rw [hF] at h
 have HF := Lib.hid hF
 have HR := Lib.hid h
 have SL := Lib.hid sl
 have C0 := Lib.hid c0
 have HC := Lib.hid (show ∀ (d : Gr) (wx : World), Below w.heap.size w wx → Calls Tryz.prog 101 #[.agg #[.int .i64 d.s, .int .i64 d.o, .int .i64 d.p, .int .i64 d.m, .int .i64 d.u], .pointer (some ⟨b1, 0, none⟩)] wx fun e w' => e = .returned (.bool ((fun d : Gr => d.s == z) d)) ∧ Below wx.heap.size wx w' from fun d wx hbx => bz2_any b1 z d wx (Nat.lt_of_lt_of_le hb hbx.size) ((hbx.cell (p := ⟨b1, 0, none⟩) hb).trans c0))
 clear hF h c0
 go_enter Tryz.func76, Tryz.ntmps76
 go_wp2_with (first | (go_at_call 22; refine (ix_bz2_lit v l b1 (fun d => d.s == z) w.heap.size F _ SL.out (Nat.le_refl _) HC.out HF.out).mono ?_; rintro e w1 ⟨rfl, hb2⟩) | fail)
 all_goals (go_ret; exact ⟨ret_bool (by rw [← HR.out]), hb2⟩)
set_option maxRecDepth 100000 in
set_option maxHeartbeats 2000000 in
theorem busy_any (vu vg va : Value) (us : List Us) (gs : List Gr) (z : Int) (w : World) (su : SlU w vu us) (sg : SlG w vg gs) : Calls Tryz.prog 74 #[.agg #[vu, vg, va], .int .i64 z] w fun e w' => e = .returned (.bool (bsyB z us gs)) ∧ Below w.heap.size w w' := by
 have SU := Lib.hid su
 have SG := Lib.hid sg
 obtain ⟨RU, hu⟩ : ∃ RU, us.any (fun d => d.s == z) = RU := ⟨_, rfl⟩
 obtain ⟨RG, hg⟩ : ∃ RG, gs.any (fun d => d.s == z) = RG := ⟨_, rfl⟩
 have HR := Lib.hid (show bsyB z us gs = (RU || RG) by rw [← hu, ← hg]; rfl)
 have HU := Lib.hid hu
 have HG := Lib.hid hg
 clear hu hg su sg
 cases RU with
 | true =>
  go_enter Tryz.func74, Tryz.ntmps74
  go_wp2_with fail
  refine (cf_bz1 _ us (w.heap.size + 1) z true _ (SU.out.below (((Below.refl _ _).alloc (Nat.le_refl _) _).alloc (by simp) _)) (by simp) ((own_at (w := w.alloc (.cells #[vu, vg, va] 43)) [.int .i64 z] 3 (by simp)).cell (i := 0) rfl) HU.out).mono ?_
  rintro e w1 ⟨rfl, hb⟩
  have oT : Own w1 w.heap.size [vu, vg, va] 43 := ((own_at _ _ rfl).alloc _).below hb
  have oZ : Own w1 (w.heap.size + 1) [.int .i64 z] 3 := (own_at _ _ (by simp)).below hb
  have bel := belowTo (((Below.refl w.heap.size w).alloc (by simp) _).alloc (by simp) _) hb (by simp; omega)
  clear hb
  obtain ⟨cT0, cT1, cT2, fT, zT⟩ := own3 oT
  obtain ⟨cZ0, fZ, zZ⟩ := own1 oZ
  go_wp2_with fail
  go_ret
  exact ⟨ret_bool (by rw [HR.out]; rfl), bel⟩
 | false =>
  go_enter Tryz.func74, Tryz.ntmps74
  go_wp2_with fail
  refine (cf_bz1 _ us (w.heap.size + 1) z false _ (SU.out.below (((Below.refl _ _).alloc (Nat.le_refl _) _).alloc (by simp) _)) (by simp) ((own_at (w := w.alloc (.cells #[vu, vg, va] 43)) [.int .i64 z] 3 (by simp)).cell (i := 0) rfl) HU.out).mono ?_
  rintro e w1 ⟨rfl, hb⟩
  have oT : Own w1 w.heap.size [vu, vg, va] 43 := ((own_at _ _ rfl).alloc _).below hb
  have oZ : Own w1 (w.heap.size + 1) [.int .i64 z] 3 := (own_at _ _ (by simp)).below hb
  have bel := belowTo (((Below.refl w.heap.size w).alloc (by simp) _).alloc (by simp) _) hb (by simp; omega)
  clear hb
  obtain ⟨cT0, cT1, cT2, fT, zT⟩ := own3 oT
  obtain ⟨cZ0, fZ, zZ⟩ := own1 oZ
  go_wp2_with fail
  refine (cf_bz2 _ gs (w.heap.size + 1) z RG _ (SG.out.below bel) zZ cZ0 HG.out).mono ?_
  rintro e w2 ⟨rfl, hb⟩
  replace oT := oT.below hb
  replace oZ := oZ.below hb
  replace bel := belowTo bel hb (by exact bel.size)
  clear hb
  clear cT0 cT1 cT2 fT zT cZ0 fZ zZ
  obtain ⟨cT0, cT1, cT2, fT, zT⟩ := own3 oT
  obtain ⟨cZ0, fZ, zZ⟩ := own1 oZ
  go_wp2_with fail
  go_ret
  exact ⟨ret_bool (by rw [HR.out]; simp), bel⟩
theorem busy_lit (vu vg va : Value) (us : List Us) (gs : List Gr) (z : Int) (w : World) (su : SlU w vu us) (sg : SlG w vg gs) (x : Bool) (h : bsyB z us gs = x) : Calls Tryz.prog 74 #[.agg #[vu, vg, va], .int .i64 z] w fun e w' => e = .returned (.bool x) ∧ Below w.heap.size w w' := by
 rw [← h]; exact busy_any vu vg va us gs z w su sg
end Go.Proofs.YtmopiifamopidaaGreat
end
section
namespace Go.Proofs.YtmopiifamopidaaGreat
open Go.RowKit
structure Sv where
 p : Option Addr
 n : Nat
 c : Nat
def Sv.v (s : Sv) : Value := .slice s.p s.n s.c
structure Nr where
 b : Nb
 vu : Sv
 vg : Sv
 va : Sv
def Nr.cells (r : Nr) : List Value := [.int .i64 r.b.fr, .int .i64 r.b.fm, .int .i64 0, .int .i64 0, .int .i64 0, .int .i64 0, .int .i64 0, .int .i64 0, .int .i64 0, .int .i64 0, .int .i64 0, .int .i64 0, .slice r.vu.p r.vu.n r.vu.c, .slice r.vg.p r.vg.n r.vg.c, .slice r.va.p r.va.n r.va.c, .slice none 0 0, .bool false, .slice none 0 0, .slice none 0 0, .slice none 0 0, .int .i64 0, .int .i64 0, .int .u64 0, .int .i64 0, .int .i64 0, .int .i64 0, .int .i64 0, .int .i64 0, .slice none 0 0, .slice none 0 0, .bool false]
def nrL : Lay Nr := ⟨Nr.cells, 31, by decide, fun _ => rfl, fun a u h => by
 simp only [Nr.cells, List.mem_cons, List.not_mem_nil, or_false] at h
 rcases h with rfl | rfl | rfl | rfl | rfl | rfl | rfl | rfl | rfl | rfl | rfl | rfl | rfl | rfl | rfl | rfl | rfl | rfl | rfl | rfl | rfl | rfl | rfl | rfl | rfl | rfl | rfl | rfl | rfl | rfl | rfl <;> rfl⟩
abbrev SlN (w : World) (v : Value) (l : List Nr) : Prop := SlT nrL w v l
def NrOk (w : World) (r : Nr) : Prop := SlU w r.vu.v r.b.us ∧ SlG w r.vg.v r.b.gs ∧ SlA w r.va.v r.b.ks
def NsOk (w : World) (l : List Nr) : Prop := ∀ r ∈ l, NrOk w r
theorem NrOk.below {w w' : World} {r : Nr} (h : NrOk w r) (hb : Below w.heap.size w w') : NrOk w' r := ⟨h.1.below hb, h.2.1.below hb, h.2.2.below hb⟩
theorem NsOk.below {w w' : World} {l : List Nr} (h : NsOk w l) (hb : Below w.heap.size w w') : NsOk w' l := fun r hr => (h r hr).below hb
theorem NsOk.at {w : World} {l : List Nr} {i : Nat} {r : Nr} (h : NsOk w l) (hr : l[i]? = some r) : NrOk w r := h r (mem_of_at hr)
theorem SlT.atN {w w' : World} {p : Option Addr} {n cap : Nat} {l : List Nr} (h : SlN w (.slice p n cap) l) (bel : Below w.heap.size w w') {i : Nat} (hi : i < l.length) :
  ∃ a b off, l[i]? = some a ∧ p = some ⟨b, off, none⟩ ∧ b < w'.heap.size ∧ b < w.heap.size ∧ w'.rangeAt b (off + i * 31) a.cells := by
 obtain ⟨a, b, off, h1, h2, h3, h4, h5⟩ := h.at bel hi
 exact ⟨a, b, off, h1, h2, h3, h4, fun j v hv => h5 j v hv⟩
theorem info_nrS : (Tryz.prog.info? 86).map (·.size) = some 31 := by kernel_rfl
theorem loadN {ops : Array Oper} {rest : List Oper} {op : Oper} {a : Act} {w : World} {Q : Exit → Act → World → Prop} (r : Nr) (b o : Nat) (hgd : op.guard = none)
  (hs : ∃ x : Operand, op.op = .load 86 x ∧ a.eval x = .pointer (some ⟨b, o, none⟩)) (hc : w.rangeAt b o r.cells)
  (h : wpList Tryz.prog ops Q rest (a.put op.dst (.agg #[.int .i64 r.b.fr, .int .i64 r.b.fm, .int .i64 0, .int .i64 0, .int .i64 0, .int .i64 0, .int .i64 0, .int .i64 0, .int .i64 0, .int .i64 0, .int .i64 0, .int .i64 0, .slice r.vu.p r.vu.n r.vu.c, .slice r.vg.p r.vg.n r.vg.c, .slice r.va.p r.va.n r.va.c, .slice none 0 0, .bool false, .slice none 0 0, .slice none 0 0, .slice none 0 0, .int .i64 0, .int .i64 0, .int .u64 0, .int .i64 0, .int .i64 0, .int .i64 0, .int .i64 0, .int .i64 0, .slice none 0 0, .slice none 0 0, .bool false])) w) : wpList Tryz.prog ops Q (op :: rest) a w := by
 obtain ⟨x, ho, hx⟩ := hs
 exact wpList_load_mid hgd 86 x ho b o hx r.cells _ hc Tryz.underlying86 rfl info_nrS h
theorem own_nr {w : World} {b : Nat} {t : TypeId} {r : Nr} (h : Own w b r.cells t) : w.cell? ⟨b, 0, none⟩ = some (.int .i64 r.b.fr) ∧ w.cell? ⟨b, 1, none⟩ = some (.int .i64 r.b.fm) ∧ w.cell? ⟨b, 12, none⟩ = some (.slice r.vu.p r.vu.n r.vu.c) ∧ w.cell? ⟨b, 13, none⟩ = some (.slice r.vg.p r.vg.n r.vg.c) ∧ w.cell? ⟨b, 14, none⟩ = some (.slice r.va.p r.va.n r.va.c) ∧ (∀ o, w.frozen? ⟨b, o, none⟩ = false) ∧ b < w.heap.size := ⟨h.cell rfl, h.cell rfl, h.cell rfl, h.cell rfl, h.cell rfl, h.frozen, h.lt⟩
set_option maxRecDepth 100000 in
set_option maxHeartbeats 2000000 in
theorem fnd1_any (bp : Nat) (z : Int) (d : Nr) (w : World) (hb : bp < w.heap.size) (c0 : w.cell? ⟨bp, 0, none⟩ = some (.int .i64 z)) : Calls Tryz.prog 53 #[.agg #[.int .i64 d.b.fr, .int .i64 d.b.fm, .int .i64 0, .int .i64 0, .int .i64 0, .int .i64 0, .int .i64 0, .int .i64 0, .int .i64 0, .int .i64 0, .int .i64 0, .int .i64 0, .slice d.vu.p d.vu.n d.vu.c, .slice d.vg.p d.vg.n d.vg.c, .slice d.va.p d.va.n d.va.c, .slice none 0 0, .bool false, .slice none 0 0, .slice none 0 0, .slice none 0 0, .int .i64 0, .int .i64 0, .int .u64 0, .int .i64 0, .int .i64 0, .int .i64 0, .int .i64 0, .int .i64 0, .slice none 0 0, .slice none 0 0, .bool false], .pointer (some ⟨bp, 0, none⟩)] w fun e w' => e = .returned (.bool (d.b.fm == z)) ∧ Below w.heap.size w w' := by
 have BX := Lib.hid (belowNew w (Obj.cells #[.int .i64 d.b.fr, .int .i64 d.b.fm, .int .i64 0, .int .i64 0, .int .i64 0, .int .i64 0, .int .i64 0, .int .i64 0, .int .i64 0, .int .i64 0, .int .i64 0, .int .i64 0, .slice d.vu.p d.vu.n d.vu.c, .slice d.vg.p d.vg.n d.vg.c, .slice d.va.p d.va.n d.va.c, .slice none 0 0, .bool false, .slice none 0 0, .slice none 0 0, .slice none 0 0, .int .i64 0, .int .i64 0, .int .u64 0, .int .i64 0, .int .i64 0, .int .i64 0, .int .i64 0, .int .i64 0, .slice none 0 0, .slice none 0 0, .bool false] 86))
 have c1 := (BX.out.cell (p := ⟨bp, 0, none⟩) hb).trans c0
 clear c0
 go_enter Tryz.func53, Tryz.ntmps53
 go_wp2_with fail
 go_ret
 exact ⟨rfl, BX.out⟩
set_option maxRecDepth 100000 in
set_option maxHeartbeats 2000000 in
theorem ixn_fnd (v : Value) (l : List Nr) (b1 : Nat) (q : Nr → Bool) (B : Nat) (w : World) (sl : SlN w v l) (ho : NsOk w l) (hB : B ≤ w.heap.size) (hq : ∀ (d : Nr) (wx : World), NrOk wx d → Below B w wx → Calls Tryz.prog 53 #[.agg #[.int .i64 d.b.fr, .int .i64 d.b.fm, .int .i64 0, .int .i64 0, .int .i64 0, .int .i64 0, .int .i64 0, .int .i64 0, .int .i64 0, .int .i64 0, .int .i64 0, .int .i64 0, .slice d.vu.p d.vu.n d.vu.c, .slice d.vg.p d.vg.n d.vg.c, .slice d.va.p d.va.n d.va.c, .slice none 0 0, .bool false, .slice none 0 0, .slice none 0 0, .slice none 0 0, .int .i64 0, .int .i64 0, .int .u64 0, .int .i64 0, .int .i64 0, .int .i64 0, .int .i64 0, .int .i64 0, .slice none 0 0, .slice none 0 0, .bool false], .pointer (some ⟨b1, 0, none⟩)] wx fun e w' => e = .returned (.bool (q d)) ∧ Below wx.heap.size wx w') :
  Calls Tryz.prog 52 #[v, .func (.func 53) #[] #[.pointer (some ⟨b1, 0, none⟩)]] w fun e w' => e = .returned (.int .i64 (idxD q l)) ∧ Below w.heap.size w w' := by
 obtain ⟨p, cap, e0, hlc, hcm, hpn⟩ := sl.form l.length rfl
 subst e0
 have SL := Lib.hid sl
 unfold maxLen at hcm
 clear hpn sl
 have HQ := Lib.hid hq
 have HO := Lib.hid ho
 clear hq ho
 go_enter Tryz.func52, Tryz.ntmps52
 go_wp2
 go_loopw [8] (fun ii wr => ∃ (i : Nat), i ≤ l.length ∧ ii = .int .i64 i ∧ idxD q l = idxF q (l.drop i) i ∧ Below w.heap.size w wr) (fun i _ => l.length - (intOf i).toNat)
 case atStart => exact ⟨0, by omega, rfl, rfl, Below.refl _ _⟩
 case round =>
  obtain ⟨i, hi, rfl, hT, bel⟩ := hrel
  have HT := Lib.hid hT
  clear hT
  by_cases hlt : i < l.length
  ·obtain ⟨d, b, off, hd, rfl, hbl, _, hrg⟩ := SL.out.atN bel hlt
   have j0 : (0 : Int) ≤ (i : Int) := Int.natCast_nonneg _
   have j1 : (i : Int) < (l.length : Int) := by omega
   have HD := Lib.hid hd
   have BE := Lib.hid bel
   have HOd := Lib.hid ((HO.out.at hd).below bel)
   have HR := Lib.hid hrg
   clear hd hrg
   cases hn : q d with
   | true =>
    have HN := Lib.hid hn
    clear hn
    go_wp2_with (first | ((with_reducible refine loadN d b (off + i * 31) ?_ ?_ HR.out ?_); (next => rfl); (next => exact ⟨_, rfl, rfl⟩)) | fail)
    refine (calls_bool (HQ.out d _ HOd.out (BE.out.mono hB)) HN.out).mono ?_
    rintro e w1 ⟨rfl, hb2⟩
    have B1 := Lib.hid (belowTo bel hb2 bel.size)
    clear hb2
    go_wp2_with fail
    go_ret
    exact ⟨ret_int (by rw [HT.out, idxF_hit HD.out HN.out]), B1.out⟩
   | false =>
    have HN := Lib.hid hn
    clear hn
    go_wp2_with (first | ((with_reducible refine loadN d b (off + i * 31) ?_ ?_ HR.out ?_); (next => rfl); (next => exact ⟨_, rfl, rfl⟩)) | fail)
    refine (calls_bool (HQ.out d _ HOd.out (BE.out.mono hB)) HN.out).mono ?_
    rintro e w1 ⟨rfl, hb2⟩
    have B1 := Lib.hid (belowTo bel hb2 bel.size)
    clear hb2
    go_wp2_with fail
    go_roundw
    case rel => exact ⟨i + 1, by omega, by go_num, by rw [HT.out, idxF_miss HD.out HN.out], B1.out⟩
    case measure => simp [intOf]; omega
  ·have HE := Lib.hid (idxF_end (q := q) (rs := l) (k := i) (by omega))
   go_wp2
   go_ret
   exact ⟨ret_int (by rw [HT.out, HE.out]), bel⟩
theorem ixn_fnd_lit (v : Value) (l : List Nr) (b1 : Nat) (q : Nr → Bool) (B : Nat) (r : Int) (w : World) (sl : SlN w v l) (ho : NsOk w l) (hB : B ≤ w.heap.size) (hq : ∀ (d : Nr) (wx : World), NrOk wx d → Below B w wx → Calls Tryz.prog 53 #[.agg #[.int .i64 d.b.fr, .int .i64 d.b.fm, .int .i64 0, .int .i64 0, .int .i64 0, .int .i64 0, .int .i64 0, .int .i64 0, .int .i64 0, .int .i64 0, .int .i64 0, .int .i64 0, .slice d.vu.p d.vu.n d.vu.c, .slice d.vg.p d.vg.n d.vg.c, .slice d.va.p d.va.n d.va.c, .slice none 0 0, .bool false, .slice none 0 0, .slice none 0 0, .slice none 0 0, .int .i64 0, .int .i64 0, .int .u64 0, .int .i64 0, .int .i64 0, .int .i64 0, .int .i64 0, .int .i64 0, .slice none 0 0, .slice none 0 0, .bool false], .pointer (some ⟨b1, 0, none⟩)] wx fun e w' => e = .returned (.bool (q d)) ∧ Below wx.heap.size wx w') (h : idxD q l = r) :
  Calls Tryz.prog 52 #[v, .func (.func 53) #[] #[.pointer (some ⟨b1, 0, none⟩)]] w fun e w' => e = .returned (.int .i64 r) ∧ Below w.heap.size w w' := by
 rw [← h]; exact ixn_fnd v l b1 q B w sl ho hB hq
end Go.Proofs.YtmopiifamopidaaGreat
end
section
namespace Go.Proofs.YtmopiifamopidaaGreat
open Go.RowKit
set_option maxRecDepth 100000 in
set_option maxHeartbeats 2000000 in
theorem grd1_any (bp bs : Nat) (me f : Int) (d : Gr) (w : World) (hbp : bp < w.heap.size) (hbs : bs < w.heap.size) (m0 : w.cell? ⟨bp, 0, none⟩ = some (.pointer (some ⟨bs, 0, none⟩))) (m1 : w.cell? ⟨bs, 2, none⟩ = some (.int .i64 me)) (m2 : w.cell? ⟨bs, 4, none⟩ = some (.int .i64 f)) : Calls Tryz.prog 54 #[.agg #[.int .i64 d.s, .int .i64 d.o, .int .i64 d.p, .int .i64 d.m, .int .i64 d.u], .pointer (some ⟨bp, 0, none⟩)] w fun e w' => e = .returned (.bool (d.p == me && decide (f ≤ d.u))) ∧ Below w.heap.size w w' := by
 have BX := Lib.hid (belowNew w (Obj.cells #[.int .i64 d.s, .int .i64 d.o, .int .i64 d.p, .int .i64 d.m, .int .i64 d.u] 52))
 have n0 := (BX.out.cell (p := ⟨bp, 0, none⟩) hbp).trans m0
 have n1 := (BX.out.cell (p := ⟨bs, 2, none⟩) hbs).trans m1
 have n2 := (BX.out.cell (p := ⟨bs, 4, none⟩) hbs).trans m2
 clear m0 m1 m2
 cases hg : (d.p == me) with
 | true =>
  go_enter Tryz.func54, Tryz.ntmps54
  go_wp2_with fail
  go_quiet (fail)
  go_wp2_with fail
  all_goals (go_ret; exact ⟨ret_bool (by first | rfl | (simp [*]; done) | (simp [*]; omega)), (by first | exact BX.out | exact belowN BX.out | exact BX.out.drew)⟩)
 | false =>
  go_enter Tryz.func54, Tryz.ntmps54
  go_wp2_with fail
  go_quiet (fail)
  go_wp2_with fail
  all_goals (go_ret; exact ⟨ret_bool (by first | rfl | (simp [*]; done) | (simp [*]; omega)), (by first | exact BX.out | exact belowN BX.out | exact BX.out.drew)⟩)
set_option maxRecDepth 100000 in
set_option maxHeartbeats 2000000 in
theorem tel1_any (bc bp bs : Nat) (cs co me : Int) (d : Us) (w : World) (hbc : bc < w.heap.size) (hbp : bp < w.heap.size) (hbs : bs < w.heap.size) (m0 : w.cell? ⟨bc, 0, none⟩ = some (.int .i64 cs)) (m1 : w.cell? ⟨bc, 1, none⟩ = some (.int .i64 co)) (m2 : w.cell? ⟨bp, 0, none⟩ = some (.pointer (some ⟨bs, 0, none⟩))) (m3 : w.cell? ⟨bs, 2, none⟩ = some (.int .i64 me)) : Calls Tryz.prog 68 #[.agg #[.int .i64 d.s, .int .i64 d.o, .int .i64 d.p, .int .i64 d.m], .pointer (some ⟨bc, 0, none⟩), .pointer (some ⟨bp, 0, none⟩)] w fun e w' => e = .returned (.bool ((d.s == cs && d.o == co) && d.p == me)) ∧ Below w.heap.size w w' := by
 have BX := Lib.hid (belowNew w (Obj.cells #[.int .i64 d.s, .int .i64 d.o, .int .i64 d.p, .int .i64 d.m] 50))
 have n0 := (BX.out.cell (p := ⟨bc, 0, none⟩) hbc).trans m0
 have n1 := (BX.out.cell (p := ⟨bc, 1, none⟩) hbc).trans m1
 have n2 := (BX.out.cell (p := ⟨bp, 0, none⟩) hbp).trans m2
 have n3 := (BX.out.cell (p := ⟨bs, 2, none⟩) hbs).trans m3
 clear m0 m1 m2 m3
 have qe := eq_cell d.s d.o cs co
 cases hg : (d.s == cs && d.o == co) with
 | true =>
  rw [hg] at qe
  go_enter Tryz.func68, Tryz.ntmps68
  go_wp2_with fail
  go_quiet (fail)
  go_wp2_with fail
  all_goals (go_ret; exact ⟨ret_bool (by first | rfl | (simp [*]; done) | (simp [*]; omega)), (by first | exact BX.out | exact belowN BX.out | exact BX.out.drew)⟩)
 | false =>
  rw [hg] at qe
  go_enter Tryz.func68, Tryz.ntmps68
  go_wp2_with fail
  go_quiet (fail)
  go_wp2_with fail
  all_goals (go_ret; exact ⟨ret_bool (by first | rfl | (simp [*]; done) | (simp [*]; omega)), (by first | exact BX.out | exact belowN BX.out | exact BX.out.drew)⟩)
set_option maxRecDepth 100000 in
set_option maxHeartbeats 2000000 in
theorem usd2_any (bc : Nat) (cs co : Int) (d : Us) (w : World) (hbc : bc < w.heap.size) (m0 : w.cell? ⟨bc, 0, none⟩ = some (.int .i64 cs)) (m1 : w.cell? ⟨bc, 1, none⟩ = some (.int .i64 co)) : Calls Tryz.prog 72 #[.agg #[.int .i64 d.s, .int .i64 d.o, .int .i64 d.p, .int .i64 d.m], .pointer (some ⟨bc, 0, none⟩)] w fun e w' => e = .returned (.bool (d.s == cs && d.o == co)) ∧ Below w.heap.size w w' := by
 have BX := Lib.hid (belowNew w (Obj.cells #[.int .i64 d.s, .int .i64 d.o, .int .i64 d.p, .int .i64 d.m] 50))
 have n0 := (BX.out.cell (p := ⟨bc, 0, none⟩) hbc).trans m0
 have n1 := (BX.out.cell (p := ⟨bc, 1, none⟩) hbc).trans m1
 clear m0 m1
 have qe := eq_cell d.s d.o cs co
 go_enter Tryz.func72, Tryz.ntmps72
 go_wp2_with fail
 all_goals (go_ret; exact ⟨ret_bool (by first | rfl | (simp [*]; done) | (simp [*]; omega)), (by first | exact BX.out | exact belowN BX.out | exact BX.out.drew)⟩)
set_option maxRecDepth 100000 in
set_option maxHeartbeats 2000000 in
theorem pos2_any (bc bp bs : Nat) (cs co me : Int) (d : Gr) (w : World) (hbc : bc < w.heap.size) (hbp : bp < w.heap.size) (hbs : bs < w.heap.size) (m0 : w.cell? ⟨bc, 0, none⟩ = some (.int .i64 cs)) (m1 : w.cell? ⟨bc, 1, none⟩ = some (.int .i64 co)) (m2 : w.cell? ⟨bp, 0, none⟩ = some (.pointer (some ⟨bs, 0, none⟩))) (m3 : w.cell? ⟨bs, 2, none⟩ = some (.int .i64 me)) : Calls Tryz.prog 77 #[.agg #[.int .i64 d.s, .int .i64 d.o, .int .i64 d.p, .int .i64 d.m, .int .i64 d.u], .pointer (some ⟨bc, 0, none⟩), .pointer (some ⟨bp, 0, none⟩)] w fun e w' => e = .returned (.bool ((d.s == cs && d.o == co) && !(d.p == me))) ∧ Below w.heap.size w w' := by
 have BX := Lib.hid (belowNew w (Obj.cells #[.int .i64 d.s, .int .i64 d.o, .int .i64 d.p, .int .i64 d.m, .int .i64 d.u] 52))
 have n0 := (BX.out.cell (p := ⟨bc, 0, none⟩) hbc).trans m0
 have n1 := (BX.out.cell (p := ⟨bc, 1, none⟩) hbc).trans m1
 have n2 := (BX.out.cell (p := ⟨bp, 0, none⟩) hbp).trans m2
 have n3 := (BX.out.cell (p := ⟨bs, 2, none⟩) hbs).trans m3
 clear m0 m1 m2 m3
 have qe := eq_cell d.s d.o cs co
 cases hg : (d.s == cs && d.o == co) with
 | true =>
  rw [hg] at qe
  go_enter Tryz.func77, Tryz.ntmps77
  go_wp2_with fail
  go_quiet (fail)
  go_wp2_with fail
  all_goals (go_ret; exact ⟨ret_bool (by first | rfl | (simp [*]; done) | (simp [*]; omega)), (by first | exact BX.out | exact belowN BX.out | exact BX.out.drew)⟩)
 | false =>
  rw [hg] at qe
  go_enter Tryz.func77, Tryz.ntmps77
  go_wp2_with fail
  go_quiet (fail)
  go_wp2_with fail
  all_goals (go_ret; exact ⟨ret_bool (by first | rfl | (simp [*]; done) | (simp [*]; omega)), (by first | exact BX.out | exact belowN BX.out | exact BX.out.drew)⟩)
set_option maxRecDepth 100000 in
set_option maxHeartbeats 2000000 in
theorem ask3_any (bc : Nat) (cs : Int) (d : Ak) (w : World) (hbc : bc < w.heap.size) (m0 : w.cell? ⟨bc, 0, none⟩ = some (.int .i64 cs)) : Calls Tryz.prog 40 #[.agg #[.int .i64 d.s, .int .i64 d.o, .int .i64 d.p], .pointer (some ⟨bc, 0, none⟩)] w fun e w' => e = .returned (.bool (d.s == cs)) ∧ Below w.heap.size w w' := by
 have BX := Lib.hid (belowNew w (Obj.cells #[.int .i64 d.s, .int .i64 d.o, .int .i64 d.p] 81))
 have n0 := (BX.out.cell (p := ⟨bc, 0, none⟩) hbc).trans m0
 clear m0
 go_enter Tryz.func40, Tryz.ntmps40
 go_wp2_with fail
 all_goals (go_ret; exact ⟨ret_bool (by first | rfl | (simp [*]; done) | (simp [*]; omega)), (by first | exact BX.out | exact belowN BX.out | exact BX.out.drew)⟩)
set_option maxRecDepth 100000 in
set_option maxHeartbeats 2000000 in
theorem tak1_any (bc : Nat) (cs co : Int) (d : Gr) (w : World) (hbc : bc < w.heap.size) (m0 : w.cell? ⟨bc, 0, none⟩ = some (.int .i64 cs)) (m1 : w.cell? ⟨bc, 1, none⟩ = some (.int .i64 co)) : Calls Tryz.prog 23 #[.agg #[.int .i64 d.s, .int .i64 d.o, .int .i64 d.p, .int .i64 d.m, .int .i64 d.u], .pointer (some ⟨bc, 0, none⟩)] w fun e w' => e = .returned (.bool (d.s == cs && d.o == co)) ∧ Below w.heap.size w w' := by
 have BX := Lib.hid (belowNew w (Obj.cells #[.int .i64 d.s, .int .i64 d.o, .int .i64 d.p, .int .i64 d.m, .int .i64 d.u] 52))
 have n0 := (BX.out.cell (p := ⟨bc, 0, none⟩) hbc).trans m0
 have n1 := (BX.out.cell (p := ⟨bc, 1, none⟩) hbc).trans m1
 clear m0 m1
 have qe := eq_cell d.s d.o cs co
 go_enter Tryz.func23, Tryz.ntmps23
 go_wp2_with fail
 all_goals (go_ret; exact ⟨ret_bool (by first | rfl | (simp [*]; done) | (simp [*]; omega)), (by first | exact BX.out | exact belowN BX.out | exact BX.out.drew)⟩)
set_option maxRecDepth 100000 in
set_option maxHeartbeats 2000000 in
theorem hrd_any (bs : Nat) (f : Int) (d : Nr) (w : World) (f0 : 0 ≤ f) (f1 : f ≤ 1000000) (hbs : bs < w.heap.size) (m0 : w.cell? ⟨bs, 4, none⟩ = some (.int .i64 f)) : Calls Tryz.prog 29 #[.pointer (some ⟨bs, 0, none⟩), .agg #[.int .i64 d.b.fr, .int .i64 d.b.fm, .int .i64 0, .int .i64 0, .int .i64 0, .int .i64 0, .int .i64 0, .int .i64 0, .int .i64 0, .int .i64 0, .int .i64 0, .int .i64 0, .slice d.vu.p d.vu.n d.vu.c, .slice d.vg.p d.vg.n d.vg.c, .slice d.va.p d.va.n d.va.c, .slice none 0 0, .bool false, .slice none 0 0, .slice none 0 0, .slice none 0 0, .int .i64 0, .int .i64 0, .int .u64 0, .int .i64 0, .int .i64 0, .int .i64 0, .int .i64 0, .int .i64 0, .slice none 0 0, .slice none 0 0, .bool false]] w fun e w' => e = .returned (.bool (hrdB f d.b)) ∧ Below w.heap.size w w' := by
 have BX := Lib.hid (belowNew w (Obj.cells #[.int .i64 d.b.fr, .int .i64 d.b.fm, .int .i64 0, .int .i64 0, .int .i64 0, .int .i64 0, .int .i64 0, .int .i64 0, .int .i64 0, .int .i64 0, .int .i64 0, .int .i64 0, .slice d.vu.p d.vu.n d.vu.c, .slice d.vg.p d.vg.n d.vg.c, .slice d.va.p d.va.n d.va.c, .slice none 0 0, .bool false, .slice none 0 0, .slice none 0 0, .slice none 0 0, .int .i64 0, .int .i64 0, .int .u64 0, .int .i64 0, .int .i64 0, .int .i64 0, .int .i64 0, .int .i64 0, .slice none 0 0, .slice none 0 0, .bool false] 86))
 have n0 := (BX.out.cell (p := ⟨bs, 4, none⟩) hbs).trans m0
 clear m0
 have hw : IntKind.i64.wrap (f - 1) = f - 1 := IntWalk.i64_in _ (by omega)
 go_enter Tryz.func29, Tryz.ntmps29
 go_wp2_with fail
 go_quiet (fail)
 go_wp2_with fail
 go_ret
 exact ⟨ret_bool (by first | rfl | (simp [hrdB, *]; done)), belowN BX.out⟩
end Go.Proofs.YtmopiifamopidaaGreat
end
section
namespace Go.Proofs.YtmopiifamopidaaGreat
open Go.RowKit
theorem plc_in {s o p N D : Int} : plcB s o p N D = (inB s (D - 1) && (inB o 15 && inB p (N - 1))) := by
 rw [Bool.eq_iff_iff, plcB_iff]
 simp only [inB, Bool.and_eq_true, decide_eq_true_eq]
 omega
set_option maxRecDepth 100000 in
set_option maxHeartbeats 2000000 in
theorem isCell_any (s o p N D : Int) (w : World) (hN : 0 ≤ N ∧ N ≤ 60) (hD : 0 ≤ D ∧ D ≤ 60) : Calls Tryz.prog 51 #[.agg #[.int .i64 N, .int .i64 D], .agg #[.int .i64 s, .int .i64 o], .int .i64 p] w fun e w' => e = .returned (.bool (plcB s o p N D)) ∧ Below w.heap.size w w' := by
 obtain ⟨n0, n1⟩ := hN
 obtain ⟨d0, d1⟩ := hD
 rw [plc_in]
 cases h1 : inB s (D - 1) with
 | false =>
  have H1 := Lib.hid h1
  clear h1
  go_enter Tryz.func51, Tryz.ntmps51
  go_wp2_with fail
  refine (in_lit s (D - 1) false _ H1.out).mono ?_
  rintro e w1 ⟨rfl, hb⟩
  have oL : Own w1 w.heap.size [.int .i64 N, .int .i64 D] 31 := ((own_at _ _ rfl).alloc _).below hb
  have oC : Own w1 (w.heap.size + 1) [.int .i64 s, .int .i64 o] 48 := (own_at _ _ (by simp)).below hb
  have bel := belowTo (((Below.refl w.heap.size w).alloc (by simp) _).alloc (by simp) _) hb (by simp; omega)
  clear hb
  obtain ⟨cL0, cL1, fL, zL⟩ := own2 oL
  obtain ⟨cC0, cC1, fC, zC⟩ := own2 oC
  go_wp2_with fail
  go_ret
  exact ⟨rfl, bel⟩
 | true =>
  cases h2 : inB o 15 with
  | false =>
   have H1 := Lib.hid h1
   clear h1
   have H2 := Lib.hid h2
   clear h2
   go_enter Tryz.func51, Tryz.ntmps51
   go_wp2_with fail
   refine (in_lit s (D - 1) true _ H1.out).mono ?_
   rintro e w1 ⟨rfl, hb⟩
   have oL : Own w1 w.heap.size [.int .i64 N, .int .i64 D] 31 := ((own_at _ _ rfl).alloc _).below hb
   have oC : Own w1 (w.heap.size + 1) [.int .i64 s, .int .i64 o] 48 := (own_at _ _ (by simp)).below hb
   have bel := belowTo (((Below.refl w.heap.size w).alloc (by simp) _).alloc (by simp) _) hb (by simp; omega)
   clear hb
   obtain ⟨cL0, cL1, fL, zL⟩ := own2 oL
   obtain ⟨cC0, cC1, fC, zC⟩ := own2 oC
   go_wp2_with fail
   refine (in_lit o 15 false _ H2.out).mono ?_
   rintro e w2 ⟨rfl, hb⟩
   replace oL := oL.below hb
   replace oC := oC.below hb
   replace bel := belowTo bel hb (by exact bel.size)
   clear hb
   clear cL0 cL1 fL zL cC0 cC1 fC zC
   obtain ⟨cL0, cL1, fL, zL⟩ := own2 oL
   obtain ⟨cC0, cC1, fC, zC⟩ := own2 oC
   go_wp2_with fail
   go_ret
   exact ⟨rfl, bel⟩
  | true =>
   cases h3 : inB p (N - 1) with
   | false =>
    have H1 := Lib.hid h1
    clear h1
    have H2 := Lib.hid h2
    clear h2
    have H3 := Lib.hid h3
    clear h3
    go_enter Tryz.func51, Tryz.ntmps51
    go_wp2_with fail
    refine (in_lit s (D - 1) true _ H1.out).mono ?_
    rintro e w1 ⟨rfl, hb⟩
    have oL : Own w1 w.heap.size [.int .i64 N, .int .i64 D] 31 := ((own_at _ _ rfl).alloc _).below hb
    have oC : Own w1 (w.heap.size + 1) [.int .i64 s, .int .i64 o] 48 := (own_at _ _ (by simp)).below hb
    have bel := belowTo (((Below.refl w.heap.size w).alloc (by simp) _).alloc (by simp) _) hb (by simp; omega)
    clear hb
    obtain ⟨cL0, cL1, fL, zL⟩ := own2 oL
    obtain ⟨cC0, cC1, fC, zC⟩ := own2 oC
    go_wp2_with fail
    refine (in_lit o 15 true _ H2.out).mono ?_
    rintro e w2 ⟨rfl, hb⟩
    replace oL := oL.below hb
    replace oC := oC.below hb
    replace bel := belowTo bel hb (by exact bel.size)
    clear hb
    clear cL0 cL1 fL zL cC0 cC1 fC zC
    obtain ⟨cL0, cL1, fL, zL⟩ := own2 oL
    obtain ⟨cC0, cC1, fC, zC⟩ := own2 oC
    go_wp2_with fail
    refine (in_lit p (N - 1) false _ H3.out).mono ?_
    rintro e w3 ⟨rfl, hb⟩
    replace oL := oL.below hb
    replace oC := oC.below hb
    replace bel := belowTo bel hb (by exact bel.size)
    clear hb
    clear cL0 cL1 fL zL cC0 cC1 fC zC
    obtain ⟨cL0, cL1, fL, zL⟩ := own2 oL
    obtain ⟨cC0, cC1, fC, zC⟩ := own2 oC
    go_wp2_with fail
    go_ret
    exact ⟨rfl, bel⟩
   | true =>
    have H1 := Lib.hid h1
    clear h1
    have H2 := Lib.hid h2
    clear h2
    have H3 := Lib.hid h3
    clear h3
    go_enter Tryz.func51, Tryz.ntmps51
    go_wp2_with fail
    refine (in_lit s (D - 1) true _ H1.out).mono ?_
    rintro e w1 ⟨rfl, hb⟩
    have oL : Own w1 w.heap.size [.int .i64 N, .int .i64 D] 31 := ((own_at _ _ rfl).alloc _).below hb
    have oC : Own w1 (w.heap.size + 1) [.int .i64 s, .int .i64 o] 48 := (own_at _ _ (by simp)).below hb
    have bel := belowTo (((Below.refl w.heap.size w).alloc (by simp) _).alloc (by simp) _) hb (by simp; omega)
    clear hb
    obtain ⟨cL0, cL1, fL, zL⟩ := own2 oL
    obtain ⟨cC0, cC1, fC, zC⟩ := own2 oC
    go_wp2_with fail
    refine (in_lit o 15 true _ H2.out).mono ?_
    rintro e w2 ⟨rfl, hb⟩
    replace oL := oL.below hb
    replace oC := oC.below hb
    replace bel := belowTo bel hb (by exact bel.size)
    clear hb
    clear cL0 cL1 fL zL cC0 cC1 fC zC
    obtain ⟨cL0, cL1, fL, zL⟩ := own2 oL
    obtain ⟨cC0, cC1, fC, zC⟩ := own2 oC
    go_wp2_with fail
    refine (in_lit p (N - 1) true _ H3.out).mono ?_
    rintro e w3 ⟨rfl, hb⟩
    replace oL := oL.below hb
    replace oC := oC.below hb
    replace bel := belowTo bel hb (by exact bel.size)
    clear hb
    clear cL0 cL1 fL zL cC0 cC1 fC zC
    obtain ⟨cL0, cL1, fL, zL⟩ := own2 oL
    obtain ⟨cC0, cC1, fC, zC⟩ := own2 oC
    go_wp2_with fail
    go_ret
    exact ⟨rfl, bel⟩
theorem isCell_lit (s o p N D : Int) (x : Bool) (w : World) (hN : 0 ≤ N ∧ N ≤ 60) (hD : 0 ≤ D ∧ D ≤ 60) (h : plcB s o p N D = x) : Calls Tryz.prog 51 #[.agg #[.int .i64 N, .int .i64 D], .agg #[.int .i64 s, .int .i64 o], .int .i64 p] w fun e w' => e = .returned (.bool x) ∧ Below w.heap.size w w' := by
 rw [← h]; exact isCell_any s o p N D w hN hD
end Go.Proofs.YtmopiifamopidaaGreat
end
section
namespace Go.Proofs.YtmopiifamopidaaGreat
open Go.RowKit
theorem us_in {N D : Int} {d : Us} : usB N D d = (plcB d.s d.o d.p N D && inB d.m 1000000000) := by
 simp only [usB, inB, Bool.and_assoc]
theorem gr_in {N D : Int} {d : Gr} : grB N D d = (plcB d.s d.o d.p N D && (decide (0 ≤ d.m) && (inB d.m d.u && decide (d.u ≤ 1000000000)))) := by
 rw [Bool.eq_iff_iff]
 simp only [grB, inB, Bool.and_eq_true, decide_eq_true_eq]
 constructor
 ·rintro ⟨⟨⟨h1, h2⟩, h3⟩, h4⟩; exact ⟨h1, h2, ⟨h2, h3⟩, h4⟩
 ·rintro ⟨h1, h2, ⟨_, h3⟩, h4⟩; exact ⟨⟨⟨h1, h2⟩, h3⟩, h4⟩
set_option maxRecDepth 100000 in
set_option maxHeartbeats 2000000 in
theorem isUse_any (d : Us) (N D : Int) (w : World) (hN : 0 ≤ N ∧ N ≤ 60) (hD : 0 ≤ D ∧ D ≤ 60) : Calls Tryz.prog 46 #[.agg #[.int .i64 N, .int .i64 D], .agg #[.int .i64 d.s, .int .i64 d.o, .int .i64 d.p, .int .i64 d.m]] w fun e w' => e = .returned (.bool (usB N D d)) ∧ Below w.heap.size w w' := by
 rw [us_in]
 cases h1 : plcB d.s d.o d.p N D with
 | false =>
  have H1 := Lib.hid h1
  clear h1
  go_enter Tryz.func46, Tryz.ntmps46
  go_wp2_with fail
  refine (isCell_lit d.s d.o d.p N D false _ hN hD H1.out).mono ?_
  rintro e w1 ⟨rfl, hb⟩
  have oL : Own w1 w.heap.size [.int .i64 N, .int .i64 D] 31 := ((own_at _ _ rfl).alloc _).below hb
  have oX : Own w1 (w.heap.size + 1) [.int .i64 d.s, .int .i64 d.o, .int .i64 d.p, .int .i64 d.m] 50 := (own_at _ _ (by simp)).below hb
  have bel := belowTo (((Below.refl w.heap.size w).alloc (by simp) _).alloc (by simp) _) hb (by simp; omega)
  clear hb
  obtain ⟨cL0, cL1, fL, zL⟩ := own2 oL
  obtain ⟨cX0, cX1, cX2, cX3, fX, zX⟩ := own4 oX
  go_wp2_with fail
  all_goals (go_ret; exact ⟨ret_bool (by first | rfl | (simp [*]; done) | (simp [*]; omega)), bel⟩)
 | true =>
  cases h2 : inB d.m 1000000000 with
  | false =>
   have H1 := Lib.hid h1
   clear h1
   have H2 := Lib.hid h2
   clear h2
   go_enter Tryz.func46, Tryz.ntmps46
   go_wp2_with fail
   refine (isCell_lit d.s d.o d.p N D true _ hN hD H1.out).mono ?_
   rintro e w1 ⟨rfl, hb⟩
   have oL : Own w1 w.heap.size [.int .i64 N, .int .i64 D] 31 := ((own_at _ _ rfl).alloc _).below hb
   have oX : Own w1 (w.heap.size + 1) [.int .i64 d.s, .int .i64 d.o, .int .i64 d.p, .int .i64 d.m] 50 := (own_at _ _ (by simp)).below hb
   have bel := belowTo (((Below.refl w.heap.size w).alloc (by simp) _).alloc (by simp) _) hb (by simp; omega)
   clear hb
   obtain ⟨cL0, cL1, fL, zL⟩ := own2 oL
   obtain ⟨cX0, cX1, cX2, cX3, fX, zX⟩ := own4 oX
   go_wp2_with fail
   refine (in_lit d.m 1000000000 false _ H2.out).mono ?_
   rintro e w2 ⟨rfl, hb⟩
   replace oL := oL.below hb
   replace oX := oX.below hb
   replace bel := belowTo bel hb (by exact bel.size)
   clear hb
   clear cL0 cL1 fL zL cX0 cX1 cX2 cX3 fX zX
   obtain ⟨cL0, cL1, fL, zL⟩ := own2 oL
   obtain ⟨cX0, cX1, cX2, cX3, fX, zX⟩ := own4 oX
   go_wp2_with fail
   all_goals (go_ret; exact ⟨ret_bool (by first | rfl | (simp [*]; done) | (simp [*]; omega)), bel⟩)
  | true =>
   have H1 := Lib.hid h1
   clear h1
   have H2 := Lib.hid h2
   clear h2
   go_enter Tryz.func46, Tryz.ntmps46
   go_wp2_with fail
   refine (isCell_lit d.s d.o d.p N D true _ hN hD H1.out).mono ?_
   rintro e w1 ⟨rfl, hb⟩
   have oL : Own w1 w.heap.size [.int .i64 N, .int .i64 D] 31 := ((own_at _ _ rfl).alloc _).below hb
   have oX : Own w1 (w.heap.size + 1) [.int .i64 d.s, .int .i64 d.o, .int .i64 d.p, .int .i64 d.m] 50 := (own_at _ _ (by simp)).below hb
   have bel := belowTo (((Below.refl w.heap.size w).alloc (by simp) _).alloc (by simp) _) hb (by simp; omega)
   clear hb
   obtain ⟨cL0, cL1, fL, zL⟩ := own2 oL
   obtain ⟨cX0, cX1, cX2, cX3, fX, zX⟩ := own4 oX
   go_wp2_with fail
   refine (in_lit d.m 1000000000 true _ H2.out).mono ?_
   rintro e w2 ⟨rfl, hb⟩
   replace oL := oL.below hb
   replace oX := oX.below hb
   replace bel := belowTo bel hb (by exact bel.size)
   clear hb
   clear cL0 cL1 fL zL cX0 cX1 cX2 cX3 fX zX
   obtain ⟨cL0, cL1, fL, zL⟩ := own2 oL
   obtain ⟨cX0, cX1, cX2, cX3, fX, zX⟩ := own4 oX
   go_wp2_with fail
   all_goals (go_ret; exact ⟨ret_bool (by first | rfl | (simp [*]; done) | (simp [*]; omega)), bel⟩)
set_option maxRecDepth 100000 in
set_option maxHeartbeats 2000000 in
theorem isGrant_any (d : Gr) (N D : Int) (w : World) (hN : 0 ≤ N ∧ N ≤ 60) (hD : 0 ≤ D ∧ D ≤ 60) : Calls Tryz.prog 49 #[.agg #[.int .i64 N, .int .i64 D], .agg #[.int .i64 d.s, .int .i64 d.o, .int .i64 d.p, .int .i64 d.m, .int .i64 d.u]] w fun e w' => e = .returned (.bool (grB N D d)) ∧ Below w.heap.size w w' := by
 rw [gr_in]
 cases h1 : plcB d.s d.o d.p N D with
 | false =>
  have H1 := Lib.hid h1
  clear h1
  go_enter Tryz.func49, Tryz.ntmps49
  go_wp2_with fail
  refine (isCell_lit d.s d.o d.p N D false _ hN hD H1.out).mono ?_
  rintro e w1 ⟨rfl, hb⟩
  have oL : Own w1 w.heap.size [.int .i64 N, .int .i64 D] 31 := ((own_at _ _ rfl).alloc _).below hb
  have oX : Own w1 (w.heap.size + 1) [.int .i64 d.s, .int .i64 d.o, .int .i64 d.p, .int .i64 d.m, .int .i64 d.u] 52 := (own_at _ _ (by simp)).below hb
  have bel := belowTo (((Below.refl w.heap.size w).alloc (by simp) _).alloc (by simp) _) hb (by simp; omega)
  clear hb
  obtain ⟨cL0, cL1, fL, zL⟩ := own2 oL
  obtain ⟨cX0, cX1, cX2, cX3, cX4, fX, zX⟩ := own5 oX
  go_wp2_with fail
  all_goals (go_ret; exact ⟨ret_bool (by first | rfl | (simp [*]; done) | (simp [*]; omega)), bel⟩)
 | true =>
  by_cases g1 : 0 ≤ d.m
  ·cases h2 : inB d.m d.u with
   | false =>
    have H1 := Lib.hid h1
    clear h1
    have H2 := Lib.hid h2
    clear h2
    go_enter Tryz.func49, Tryz.ntmps49
    go_wp2_with fail
    refine (isCell_lit d.s d.o d.p N D true _ hN hD H1.out).mono ?_
    rintro e w1 ⟨rfl, hb⟩
    have oL : Own w1 w.heap.size [.int .i64 N, .int .i64 D] 31 := ((own_at _ _ rfl).alloc _).below hb
    have oX : Own w1 (w.heap.size + 1) [.int .i64 d.s, .int .i64 d.o, .int .i64 d.p, .int .i64 d.m, .int .i64 d.u] 52 := (own_at _ _ (by simp)).below hb
    have bel := belowTo (((Below.refl w.heap.size w).alloc (by simp) _).alloc (by simp) _) hb (by simp; omega)
    clear hb
    obtain ⟨cL0, cL1, fL, zL⟩ := own2 oL
    obtain ⟨cX0, cX1, cX2, cX3, cX4, fX, zX⟩ := own5 oX
    go_wp2_with fail
    refine (in_lit d.m d.u false _ H2.out).mono ?_
    rintro e w2 ⟨rfl, hb⟩
    replace oL := oL.below hb
    replace oX := oX.below hb
    replace bel := belowTo bel hb (by exact bel.size)
    clear hb
    clear cL0 cL1 fL zL cX0 cX1 cX2 cX3 cX4 fX zX
    obtain ⟨cL0, cL1, fL, zL⟩ := own2 oL
    obtain ⟨cX0, cX1, cX2, cX3, cX4, fX, zX⟩ := own5 oX
    go_wp2_with fail
    all_goals (go_ret; exact ⟨ret_bool (by first | rfl | (simp [*]; done) | (simp [*]; omega)), bel⟩)
   | true =>
    have H1 := Lib.hid h1
    clear h1
    have H2 := Lib.hid h2
    clear h2
    go_enter Tryz.func49, Tryz.ntmps49
    go_wp2_with fail
    refine (isCell_lit d.s d.o d.p N D true _ hN hD H1.out).mono ?_
    rintro e w1 ⟨rfl, hb⟩
    have oL : Own w1 w.heap.size [.int .i64 N, .int .i64 D] 31 := ((own_at _ _ rfl).alloc _).below hb
    have oX : Own w1 (w.heap.size + 1) [.int .i64 d.s, .int .i64 d.o, .int .i64 d.p, .int .i64 d.m, .int .i64 d.u] 52 := (own_at _ _ (by simp)).below hb
    have bel := belowTo (((Below.refl w.heap.size w).alloc (by simp) _).alloc (by simp) _) hb (by simp; omega)
    clear hb
    obtain ⟨cL0, cL1, fL, zL⟩ := own2 oL
    obtain ⟨cX0, cX1, cX2, cX3, cX4, fX, zX⟩ := own5 oX
    go_wp2_with fail
    refine (in_lit d.m d.u true _ H2.out).mono ?_
    rintro e w2 ⟨rfl, hb⟩
    replace oL := oL.below hb
    replace oX := oX.below hb
    replace bel := belowTo bel hb (by exact bel.size)
    clear hb
    clear cL0 cL1 fL zL cX0 cX1 cX2 cX3 cX4 fX zX
    obtain ⟨cL0, cL1, fL, zL⟩ := own2 oL
    obtain ⟨cX0, cX1, cX2, cX3, cX4, fX, zX⟩ := own5 oX
    go_wp2_with fail
    all_goals (go_ret; exact ⟨ret_bool (by first | rfl | (simp [*]; done) | (simp [*]; omega)), bel⟩)
  ·have H1 := Lib.hid h1
   clear h1
   go_enter Tryz.func49, Tryz.ntmps49
   go_wp2_with fail
   refine (isCell_lit d.s d.o d.p N D true _ hN hD H1.out).mono ?_
   rintro e w1 ⟨rfl, hb⟩
   have oL : Own w1 w.heap.size [.int .i64 N, .int .i64 D] 31 := ((own_at _ _ rfl).alloc _).below hb
   have oX : Own w1 (w.heap.size + 1) [.int .i64 d.s, .int .i64 d.o, .int .i64 d.p, .int .i64 d.m, .int .i64 d.u] 52 := (own_at _ _ (by simp)).below hb
   have bel := belowTo (((Below.refl w.heap.size w).alloc (by simp) _).alloc (by simp) _) hb (by simp; omega)
   clear hb
   obtain ⟨cL0, cL1, fL, zL⟩ := own2 oL
   obtain ⟨cX0, cX1, cX2, cX3, cX4, fX, zX⟩ := own5 oX
   go_wp2_with fail
   all_goals (go_ret; exact ⟨ret_bool (by first | rfl | (simp [*]; done) | (simp [*]; omega)), bel⟩)
end Go.Proofs.YtmopiifamopidaaGreat
end
section
namespace Go.Proofs.YtmopiifamopidaaGreat
open Go.RowKit
set_option maxRecDepth 100000 in
set_option maxHeartbeats 2000000 in
theorem ns1_any (bl : Nat) (d : Us) (N D : Int) (w : World) (hN : 0 ≤ N ∧ N ≤ 60) (hD : 0 ≤ D ∧ D ≤ 60) (hb : bl < w.heap.size) (c0 : w.cell? ⟨bl, 0, none⟩ = some (.int .i64 N)) (c1 : w.cell? ⟨bl, 1, none⟩ = some (.int .i64 D)) : Calls Tryz.prog 45 #[.agg #[.int .i64 d.s, .int .i64 d.o, .int .i64 d.p, .int .i64 d.m], .pointer (some ⟨bl, 0, none⟩)] w fun e w' => e = .returned (.bool (usB N D d)) ∧ Below w.heap.size w w' := by
 go_enter Tryz.func45, Tryz.ntmps45
 go_wp2_with fail
 refine (isUse_any d N D _ hN hD).mono ?_
 rintro e w1 ⟨rfl, hbb⟩
 have B1 := Lib.hid (belowTo (belowNew w (.cells #[.int .i64 d.s, .int .i64 d.o, .int .i64 d.p, .int .i64 d.m] 50)) hbb (by simp))
 clear hbb
 go_wp2_with fail
 go_ret
 exact ⟨rfl, B1.out⟩
set_option maxRecDepth 100000 in
set_option maxHeartbeats 2000000 in
theorem ns2_any (bl : Nat) (d : Gr) (N D : Int) (w : World) (hN : 0 ≤ N ∧ N ≤ 60) (hD : 0 ≤ D ∧ D ≤ 60) (hb : bl < w.heap.size) (c0 : w.cell? ⟨bl, 0, none⟩ = some (.int .i64 N)) (c1 : w.cell? ⟨bl, 1, none⟩ = some (.int .i64 D)) : Calls Tryz.prog 48 #[.agg #[.int .i64 d.s, .int .i64 d.o, .int .i64 d.p, .int .i64 d.m, .int .i64 d.u], .pointer (some ⟨bl, 0, none⟩)] w fun e w' => e = .returned (.bool (grB N D d)) ∧ Below w.heap.size w w' := by
 go_enter Tryz.func48, Tryz.ntmps48
 go_wp2_with fail
 refine (isGrant_any d N D _ hN hD).mono ?_
 rintro e w1 ⟨rfl, hbb⟩
 have B1 := Lib.hid (belowTo (belowNew w (.cells #[.int .i64 d.s, .int .i64 d.o, .int .i64 d.p, .int .i64 d.m, .int .i64 d.u] 52)) hbb (by simp))
 clear hbb
 go_wp2_with fail
 go_ret
 exact ⟨rfl, B1.out⟩
set_option maxRecDepth 100000 in
set_option maxHeartbeats 2000000 in
theorem ns3_any (bl : Nat) (d : Ak) (N D : Int) (w : World) (hN : 0 ≤ N ∧ N ≤ 60) (hD : 0 ≤ D ∧ D ≤ 60) (hb : bl < w.heap.size) (c0 : w.cell? ⟨bl, 0, none⟩ = some (.int .i64 N)) (c1 : w.cell? ⟨bl, 1, none⟩ = some (.int .i64 D)) : Calls Tryz.prog 50 #[.agg #[.int .i64 d.s, .int .i64 d.o, .int .i64 d.p], .pointer (some ⟨bl, 0, none⟩)] w fun e w' => e = .returned (.bool (plcB d.s d.o d.p N D)) ∧ Below w.heap.size w w' := by
 go_enter Tryz.func50, Tryz.ntmps50
 go_wp2_with fail
 refine (isCell_any d.s d.o d.p N D _ hN hD).mono ?_
 rintro e w1 ⟨rfl, hbb⟩
 have B1 := Lib.hid (belowTo (belowNew w (.cells #[.int .i64 d.s, .int .i64 d.o, .int .i64 d.p] 81)) hbb (by simp))
 clear hbb
 go_wp2_with fail
 go_ret
 exact ⟨rfl, B1.out⟩
end Go.Proofs.YtmopiifamopidaaGreat
end
section
namespace Go.Proofs.YtmopiifamopidaaGreat
open Go.RowKit
set_option maxRecDepth 100000 in
set_option maxHeartbeats 2000000 in
theorem uent_any (v : Value) (l : List Us) (w : World) (sl : SlU w v l) (h100 : l.length ≤ 100) : Calls Tryz.prog 83 #[v, .func (.func 57) #[] #[]] w fun e w' => RetU w l e w' := by
 obtain ⟨p, cap, e0, hlc, hcm, hpn⟩ := sl.form l.length rfl
 subst e0
 have SL := Lib.hid sl
 unfold maxLen at hcm
 clear hpn sl
 obtain ⟨i0, hi, hz, hs0, hb0⟩ := info_parts info_uP
 have IF := Lib.hid (And.intro hi (And.intro hz (And.intro hs0 hb0)))
 clear hi hz hs0 hb0
 go_enter Tryz.func83, Tryz.ntmps83
 go_wp2_with fail
 go_loopw [5, 10] (fun out ii wr => ∃ (i : Nat), i ≤ l.length ∧ ii = .int .i64 i ∧ wr.ownsRow w.heap.size 128 4 out i (flatT usL (l.take i)) ∧ Below w.heap.size w wr) (fun _ i _ => l.length - (intOf i).toNat)
 case atStart => exact ⟨0, by omega, rfl, World.ownsRow_nil _ _ _ _, Below.refl _ _⟩
 case round =>
  obtain ⟨i, hi, rfl, hown, bel⟩ := hrel
  have HOWN := Lib.hid hown
  have BE := Lib.hid bel
  clear hown bel
  have j0 : (0 : Int) ≤ (i : Int) := Int.natCast_nonneg _
  by_cases hlt : i < l.length
  ·obtain ⟨d, b, off, hd, rfl, hbl, _, d0, d1, d2, d3⟩ := SL.out.atU BE.out hlt
   have j1 : (i : Int) < (l.length : Int) := by omega
   have HD := Lib.hid (take_snocG hd)
   clear hd
   go_wp2_with fail
   refine (uto_any d.s d.o d.p d.m _).mono ?_
   rintro e w1 ⟨rfl, hb⟩
   have B1 := Lib.hid (belowTo (BE.out.alloc BE.out.size _) hb (by have := BE.out.size; simp; omega))
   have H1 := Lib.hid (ownsRow_belowD (HOWN.out.alloc _) hb)
   clear hb
   go_wp2_with (at_builtin; refine wpList_append_own _ rfl _ _ 154 rfl w.heap.size 128 i0 _ 4 32 (by kernel_rfl) IF.out.1 IF.out.2.1 IF.out.2.2.1 IF.out.2.2.2 rfl (by decide) _ i (flatT usL (l.take i)) rfl (H1.out.alloc _) ⟨w1.heap.size, 0, none⟩ 1 1 (usL.f d) rfl rfl (newsT (L := usL) w1 d 128) (usL.one _) ?qc4 ?qc5 ?qc6 ?_)
   case qc4 => unfold maxLen; omega
   case qc5 => omega
   case qc6 => have := B1.out.size; simp; omega
   intro v2 w2 hown hgrow hnil
   have B2 := Lib.hid ((B1.out.alloc B1.out.size _).grown hgrow (by have := B1.out.size; simp; omega) (fun k hk => (H1.out.lt k hk).1))
   have H2 := Lib.hid hown
   clear hown hgrow hnil
   go_wp2_with fail
   go_roundw
   case rel => exact ⟨i + 1, by omega, by go_num, by have := H2.out; rw [HD.out, flatT_append, flatT_one]; exact this, B2.out⟩
   case measure => simp [intOf]; omega
  ·obtain rfl : i = l.length := by omega
   go_wp2_with fail
   go_ret
   exact ⟨_, rfl, by have := HOWN.out; rw [List.take_length] at this; exact slt_of_own (L := usL) this, BE.out⟩
set_option maxRecDepth 100000 in
set_option maxHeartbeats 2000000 in
theorem gent_any (v : Value) (l : List Gr) (w : World) (sl : SlG w v l) (h100 : l.length ≤ 100) : Calls Tryz.prog 85 #[v, .func (.func 64) #[] #[]] w fun e w' => RetG w l e w' := by
 obtain ⟨p, cap, e0, hlc, hcm, hpn⟩ := sl.form l.length rfl
 subst e0
 have SL := Lib.hid sl
 unfold maxLen at hcm
 clear hpn sl
 obtain ⟨i0, hi, hz, hs0, hb0⟩ := info_parts info_gP
 have IF := Lib.hid (And.intro hi (And.intro hz (And.intro hs0 hb0)))
 clear hi hz hs0 hb0
 go_enter Tryz.func85, Tryz.ntmps85
 go_wp2_with fail
 go_loopw [5, 10] (fun out ii wr => ∃ (i : Nat), i ≤ l.length ∧ ii = .int .i64 i ∧ wr.ownsRow w.heap.size 138 5 out i (flatT grL (l.take i)) ∧ Below w.heap.size w wr) (fun _ i _ => l.length - (intOf i).toNat)
 case atStart => exact ⟨0, by omega, rfl, World.ownsRow_nil _ _ _ _, Below.refl _ _⟩
 case round =>
  obtain ⟨i, hi, rfl, hown, bel⟩ := hrel
  have HOWN := Lib.hid hown
  have BE := Lib.hid bel
  clear hown bel
  have j0 : (0 : Int) ≤ (i : Int) := Int.natCast_nonneg _
  by_cases hlt : i < l.length
  ·obtain ⟨d, b, off, hd, rfl, hbl, _, d0, d1, d2, d3, d4⟩ := SL.out.atG BE.out hlt
   have j1 : (i : Int) < (l.length : Int) := by omega
   have HD := Lib.hid (take_snocG hd)
   clear hd
   go_wp2_with fail
   refine (gto_any d.s d.o d.p d.m d.u _).mono ?_
   rintro e w1 ⟨rfl, hb⟩
   have B1 := Lib.hid (belowTo (BE.out.alloc BE.out.size _) hb (by have := BE.out.size; simp; omega))
   have H1 := Lib.hid (ownsRow_belowD (HOWN.out.alloc _) hb)
   clear hb
   go_wp2_with (at_builtin; refine wpList_append_own _ rfl _ _ 157 rfl w.heap.size 138 i0 _ 5 40 (by kernel_rfl) IF.out.1 IF.out.2.1 IF.out.2.2.1 IF.out.2.2.2 rfl (by decide) _ i (flatT grL (l.take i)) rfl (H1.out.alloc _) ⟨w1.heap.size, 0, none⟩ 1 1 (grL.f d) rfl rfl (newsT (L := grL) w1 d 138) (grL.one _) ?qc4 ?qc5 ?qc6 ?_)
   case qc4 => unfold maxLen; omega
   case qc5 => omega
   case qc6 => have := B1.out.size; simp; omega
   intro v2 w2 hown hgrow hnil
   have B2 := Lib.hid ((B1.out.alloc B1.out.size _).grown hgrow (by have := B1.out.size; simp; omega) (fun k hk => (H1.out.lt k hk).1))
   have H2 := Lib.hid hown
   clear hown hgrow hnil
   go_wp2_with fail
   go_roundw
   case rel => exact ⟨i + 1, by omega, by go_num, by have := H2.out; rw [HD.out, flatT_append, flatT_one]; exact this, B2.out⟩
   case measure => simp [intOf]; omega
  ·obtain rfl : i = l.length := by omega
   go_wp2_with fail
   go_ret
   exact ⟨_, rfl, by have := HOWN.out; rw [List.take_length] at this; exact slt_of_own (L := grL) this, BE.out⟩
set_option maxRecDepth 100000 in
set_option maxHeartbeats 2000000 in
theorem aent_any (v : Value) (l : List Ak) (w : World) (sl : SlA w v l) (h100 : l.length ≤ 100) : Calls Tryz.prog 87 #[v, .func (.func 88) #[] #[]] w fun e w' => RetA w l e w' := by
 obtain ⟨p, cap, e0, hlc, hcm, hpn⟩ := sl.form l.length rfl
 subst e0
 have SL := Lib.hid sl
 unfold maxLen at hcm
 clear hpn sl
 obtain ⟨i0, hi, hz, hs0, hb0⟩ := info_parts info_aP
 have IF := Lib.hid (And.intro hi (And.intro hz (And.intro hs0 hb0)))
 clear hi hz hs0 hb0
 go_enter Tryz.func87, Tryz.ntmps87
 go_wp2_with fail
 go_loopw [5, 10] (fun out ii wr => ∃ (i : Nat), i ≤ l.length ∧ ii = .int .i64 i ∧ wr.ownsRow w.heap.size 160 3 out i (flatT akL (l.take i)) ∧ Below w.heap.size w wr) (fun _ i _ => l.length - (intOf i).toNat)
 case atStart => exact ⟨0, by omega, rfl, World.ownsRow_nil _ _ _ _, Below.refl _ _⟩
 case round =>
  obtain ⟨i, hi, rfl, hown, bel⟩ := hrel
  have HOWN := Lib.hid hown
  have BE := Lib.hid bel
  clear hown bel
  have j0 : (0 : Int) ≤ (i : Int) := Int.natCast_nonneg _
  by_cases hlt : i < l.length
  ·obtain ⟨d, b, off, hd, rfl, hbl, _, d0, d1, d2⟩ := SL.out.atA BE.out hlt
   have j1 : (i : Int) < (l.length : Int) := by omega
   have HD := Lib.hid (take_snocG hd)
   clear hd
   go_wp2_with fail
   refine (ato_any d.s d.o d.p _).mono ?_
   rintro e w1 ⟨rfl, hb⟩
   have B1 := Lib.hid (belowTo (BE.out.alloc BE.out.size _) hb (by have := BE.out.size; simp; omega))
   have H1 := Lib.hid (ownsRow_belowD (HOWN.out.alloc _) hb)
   clear hb
   go_wp2_with (at_builtin; refine wpList_append_own _ rfl _ _ 161 rfl w.heap.size 160 i0 _ 3 24 (by kernel_rfl) IF.out.1 IF.out.2.1 IF.out.2.2.1 IF.out.2.2.2 rfl (by decide) _ i (flatT akL (l.take i)) rfl (H1.out.alloc _) ⟨w1.heap.size, 0, none⟩ 1 1 (akL.f d) rfl rfl (newsT (L := akL) w1 d 160) (akL.one _) ?qc4 ?qc5 ?qc6 ?_)
   case qc4 => unfold maxLen; omega
   case qc5 => omega
   case qc6 => have := B1.out.size; simp; omega
   intro v2 w2 hown hgrow hnil
   have B2 := Lib.hid ((B1.out.alloc B1.out.size _).grown hgrow (by have := B1.out.size; simp; omega) (fun k hk => (H1.out.lt k hk).1))
   have H2 := Lib.hid hown
   clear hown hgrow hnil
   go_wp2_with fail
   go_roundw
   case rel => exact ⟨i + 1, by omega, by go_num, by have := H2.out; rw [HD.out, flatT_append, flatT_one]; exact this, B2.out⟩
   case measure => simp [intOf]; omega
  ·obtain rfl : i = l.length := by omega
   go_wp2_with fail
   go_ret
   exact ⟨_, rfl, by have := HOWN.out; rw [List.take_length] at this; exact slt_of_own (L := akL) this, BE.out⟩
end Go.Proofs.YtmopiifamopidaaGreat
end
section
namespace Go.Proofs.YtmopiifamopidaaGreat
open Go.RowKit
theorem take_filtB {α : Type} {p : α → Bool} {l : List α} {i : Nat} {d : α} (h : l[i]? = some d) : (l.take (i + 1)).filter p = (l.take i).filter p ++ if p d then [d] else [] := by
 rw [take_snocG h, List.filter_append]
 cases e : p d
 ·rw [List.filter_cons_of_neg (by simp [e])]; rfl
 ·rw [List.filter_cons_of_pos (by simp [e])]; rfl
theorem filt_leB {α : Type} (p : α → Bool) (l : List α) (i : Nat) : ((l.take i).filter p).length ≤ l.length := Nat.le_trans (List.length_filter_le _ _) (List.length_take_le' i l)
end Go.Proofs.YtmopiifamopidaaGreat
end
