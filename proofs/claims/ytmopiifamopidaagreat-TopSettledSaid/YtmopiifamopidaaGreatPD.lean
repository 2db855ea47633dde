/- What the functions that look into heard tables return. No condition but those named. -/
import Derived.Test.YtmopiifamopidaaGreatPC
import Derived.Laws.ResultCell
import Derived.Outline
set_option linter.unusedVariables false
set_option linter.unusedSimpArgs false
section
namespace Go.Proofs.YtmopiifamopidaaGreat
open Go.RowKit
set_option maxRecDepth 100000 in
set_option maxHeartbeats 2000000 in
theorem ixx_tel1 (v : Value) (l : List Us) (bc bp : Nat) (q : Us → Bool) (B : Nat) (r : Int) (w : World) (sl : SlU w v l) (hB : B ≤ w.heap.size) (hq : ∀ (d : Us) (wx : World), Below B w wx → Calls Tryz.prog 68 #[.agg #[.int .i64 d.s, .int .i64 d.o, .int .i64 d.p, .int .i64 d.m], .pointer (some ⟨bc, 0, none⟩), .pointer (some ⟨bp, 0, none⟩)] wx fun e w' => e = .returned (.bool (q d)) ∧ Below wx.heap.size wx w') (hr : idxD q l = r) :
  Calls Tryz.prog 89 #[v, .func (.func 68) #[] #[.pointer (some ⟨bc, 0, none⟩), .pointer (some ⟨bp, 0, none⟩)]] w fun e w' => e = .returned (.int .i64 r) ∧ Below w.heap.size w w' := by
 subst hr
 obtain ⟨p, cap, e0, hlc, hcm, hpn⟩ := sl.form l.length rfl
 subst e0
 have SL := Lib.hid sl
 unfold maxLen at hcm
 clear hpn sl
 have HQ := Lib.hid hq
 clear hq
 go_enter Tryz.func89, Tryz.ntmps89
 go_wp2
 go_loopw [8] (fun ii wr => ∃ (i : Nat), i ≤ l.length ∧ ii = .int .i64 i ∧ idxD q l = idxF q (l.drop i) i ∧ Below w.heap.size w wr) (fun i _ => l.length - (intOf i).toNat)
 case atStart => exact ⟨0, by omega, rfl, rfl, Below.refl _ _⟩
 case round =>
  obtain ⟨i, hi, rfl, hT, bel⟩ := hrel
  have HT := Lib.hid hT
  clear hT
  by_cases hlt : i < l.length
  ·obtain ⟨d, b, off, hd, rfl, hbl, _, d0, d1, d2, d3⟩ := SL.out.atU bel hlt
   have j0 : (0 : Int) ≤ (i : Int) := Int.natCast_nonneg _
   have j1 : (i : Int) < (l.length : Int) := by omega
   have HD := Lib.hid hd
   have BE := Lib.hid bel
   clear hd
   cases hn : q d with
   | true =>
    have HN := Lib.hid hn
    clear hn
    go_wp2_with (first | (go_at_call 68; refine (calls_bool (HQ.out d _ (BE.out.mono hB)) HN.out).mono ?_; rintro e w1 ⟨rfl, hb2⟩; have B1 := Lib.hid (belowTo bel hb2 bel.size); clear hb2) | fail)
    go_ret
    exact ⟨ret_int (by rw [HT.out, idxF_hit HD.out HN.out]), B1.out⟩
   | false =>
    have HN := Lib.hid hn
    clear hn
    go_wp2_with (first | (go_at_call 68; refine (calls_bool (HQ.out d _ (BE.out.mono hB)) HN.out).mono ?_; rintro e w1 ⟨rfl, hb2⟩; have B1 := Lib.hid (belowTo bel hb2 bel.size); clear hb2) | fail)
    go_roundw
    case rel => exact ⟨i + 1, by omega, by go_num, by rw [HT.out, idxF_miss HD.out HN.out], B1.out⟩
    case measure => simp [intOf]; omega
  ·have HE := Lib.hid (idxF_end (q := q) (rs := l) (k := i) (by omega))
   go_wp2
   go_ret
   exact ⟨ret_int (by rw [HT.out, HE.out]), bel⟩
set_option maxRecDepth 100000 in
set_option maxHeartbeats 2000000 in
theorem ixx_usd2 (v : Value) (l : List Us) (bc : Nat) (q : Us → Bool) (B : Nat) (r : Int) (w : World) (sl : SlU w v l) (hB : B ≤ w.heap.size) (hq : ∀ (d : Us) (wx : World), Below B w wx → Calls Tryz.prog 72 #[.agg #[.int .i64 d.s, .int .i64 d.o, .int .i64 d.p, .int .i64 d.m], .pointer (some ⟨bc, 0, none⟩)] wx fun e w' => e = .returned (.bool (q d)) ∧ Below wx.heap.size wx w') (hr : idxD q l = r) :
  Calls Tryz.prog 89 #[v, .func (.func 72) #[] #[.pointer (some ⟨bc, 0, none⟩)]] w fun e w' => e = .returned (.int .i64 r) ∧ Below w.heap.size w w' := by
 subst hr
 obtain ⟨p, cap, e0, hlc, hcm, hpn⟩ := sl.form l.length rfl
 subst e0
 have SL := Lib.hid sl
 unfold maxLen at hcm
 clear hpn sl
 have HQ := Lib.hid hq
 clear hq
 go_enter Tryz.func89, Tryz.ntmps89
 go_wp2
 go_loopw [8] (fun ii wr => ∃ (i : Nat), i ≤ l.length ∧ ii = .int .i64 i ∧ idxD q l = idxF q (l.drop i) i ∧ Below w.heap.size w wr) (fun i _ => l.length - (intOf i).toNat)
 case atStart => exact ⟨0, by omega, rfl, rfl, Below.refl _ _⟩
 case round =>
  obtain ⟨i, hi, rfl, hT, bel⟩ := hrel
  have HT := Lib.hid hT
  clear hT
  by_cases hlt : i < l.length
  ·obtain ⟨d, b, off, hd, rfl, hbl, _, d0, d1, d2, d3⟩ := SL.out.atU bel hlt
   have j0 : (0 : Int) ≤ (i : Int) := Int.natCast_nonneg _
   have j1 : (i : Int) < (l.length : Int) := by omega
   have HD := Lib.hid hd
   have BE := Lib.hid bel
   clear hd
   cases hn : q d with
   | true =>
    have HN := Lib.hid hn
    clear hn
    go_wp2_with (first | (go_at_call 72; refine (calls_bool (HQ.out d _ (BE.out.mono hB)) HN.out).mono ?_; rintro e w1 ⟨rfl, hb2⟩; have B1 := Lib.hid (belowTo bel hb2 bel.size); clear hb2) | fail)
    go_ret
    exact ⟨ret_int (by rw [HT.out, idxF_hit HD.out HN.out]), B1.out⟩
   | false =>
    have HN := Lib.hid hn
    clear hn
    go_wp2_with (first | (go_at_call 72; refine (calls_bool (HQ.out d _ (BE.out.mono hB)) HN.out).mono ?_; rintro e w1 ⟨rfl, hb2⟩; have B1 := Lib.hid (belowTo bel hb2 bel.size); clear hb2) | fail)
    go_roundw
    case rel => exact ⟨i + 1, by omega, by go_num, by rw [HT.out, idxF_miss HD.out HN.out], B1.out⟩
    case measure => simp [intOf]; omega
  ·have HE := Lib.hid (idxF_end (q := q) (rs := l) (k := i) (by omega))
   go_wp2
   go_ret
   exact ⟨ret_int (by rw [HT.out, HE.out]), bel⟩
set_option maxRecDepth 100000 in
set_option maxHeartbeats 2000000 in
theorem ixx_pos2 (v : Value) (l : List Gr) (bc bp : Nat) (q : Gr → Bool) (B : Nat) (r : Int) (w : World) (sl : SlG w v l) (hB : B ≤ w.heap.size) (hq : ∀ (d : Gr) (wx : World), Below B w wx → Calls Tryz.prog 77 #[.agg #[.int .i64 d.s, .int .i64 d.o, .int .i64 d.p, .int .i64 d.m, .int .i64 d.u], .pointer (some ⟨bc, 0, none⟩), .pointer (some ⟨bp, 0, none⟩)] wx fun e w' => e = .returned (.bool (q d)) ∧ Below wx.heap.size wx w') (hr : idxD q l = r) :
  Calls Tryz.prog 22 #[v, .func (.func 77) #[] #[.pointer (some ⟨bc, 0, none⟩), .pointer (some ⟨bp, 0, none⟩)]] w fun e w' => e = .returned (.int .i64 r) ∧ Below w.heap.size w w' := by
 subst hr
 obtain ⟨p, cap, e0, hlc, hcm, hpn⟩ := sl.form l.length rfl
 subst e0
 have SL := Lib.hid sl
 unfold maxLen at hcm
 clear hpn sl
 have HQ := Lib.hid hq
 clear hq
 go_enter Tryz.func22, Tryz.ntmps22
 go_wp2
 go_loopw [8] (fun ii wr => ∃ (i : Nat), i ≤ l.length ∧ ii = .int .i64 i ∧ idxD q l = idxF q (l.drop i) i ∧ Below w.heap.size w wr) (fun i _ => l.length - (intOf i).toNat)
 case atStart => exact ⟨0, by omega, rfl, rfl, Below.refl _ _⟩
 case round =>
  obtain ⟨i, hi, rfl, hT, bel⟩ := hrel
  have HT := Lib.hid hT
  clear hT
  by_cases hlt : i < l.length
  ·obtain ⟨d, b, off, hd, rfl, hbl, _, d0, d1, d2, d3, d4⟩ := SL.out.atG bel hlt
   have j0 : (0 : Int) ≤ (i : Int) := Int.natCast_nonneg _
   have j1 : (i : Int) < (l.length : Int) := by omega
   have HD := Lib.hid hd
   have BE := Lib.hid bel
   clear hd
   cases hn : q d with
   | true =>
    have HN := Lib.hid hn
    clear hn
    go_wp2_with (first | (go_at_call 77; refine (calls_bool (HQ.out d _ (BE.out.mono hB)) HN.out).mono ?_; rintro e w1 ⟨rfl, hb2⟩; have B1 := Lib.hid (belowTo bel hb2 bel.size); clear hb2) | fail)
    go_ret
    exact ⟨ret_int (by rw [HT.out, idxF_hit HD.out HN.out]), B1.out⟩
   | false =>
    have HN := Lib.hid hn
    clear hn
    go_wp2_with (first | (go_at_call 77; refine (calls_bool (HQ.out d _ (BE.out.mono hB)) HN.out).mono ?_; rintro e w1 ⟨rfl, hb2⟩; have B1 := Lib.hid (belowTo bel hb2 bel.size); clear hb2) | fail)
    go_roundw
    case rel => exact ⟨i + 1, by omega, by go_num, by rw [HT.out, idxF_miss HD.out HN.out], B1.out⟩
    case measure => simp [intOf]; omega
  ·have HE := Lib.hid (idxF_end (q := q) (rs := l) (k := i) (by omega))
   go_wp2
   go_ret
   exact ⟨ret_int (by rw [HT.out, HE.out]), bel⟩
set_option maxRecDepth 100000 in
set_option maxHeartbeats 2000000 in
theorem ixx_ask3 (v : Value) (l : List Ak) (bc : Nat) (q : Ak → Bool) (B : Nat) (r : Int) (w : World) (sl : SlA w v l) (hB : B ≤ w.heap.size) (hq : ∀ (d : Ak) (wx : World), Below B w wx → Calls Tryz.prog 40 #[.agg #[.int .i64 d.s, .int .i64 d.o, .int .i64 d.p], .pointer (some ⟨bc, 0, none⟩)] wx fun e w' => e = .returned (.bool (q d)) ∧ Below wx.heap.size wx w') (hr : idxD q l = r) :
  Calls Tryz.prog 79 #[v, .func (.func 40) #[] #[.pointer (some ⟨bc, 0, none⟩)]] w fun e w' => e = .returned (.int .i64 r) ∧ Below w.heap.size w w' := by
 subst hr
 obtain ⟨p, cap, e0, hlc, hcm, hpn⟩ := sl.form l.length rfl
 subst e0
 have SL := Lib.hid sl
 unfold maxLen at hcm
 clear hpn sl
 have HQ := Lib.hid hq
 clear hq
 go_enter Tryz.func79, Tryz.ntmps79
 go_wp2
 go_loopw [8] (fun ii wr => ∃ (i : Nat), i ≤ l.length ∧ ii = .int .i64 i ∧ idxD q l = idxF q (l.drop i) i ∧ Below w.heap.size w wr) (fun i _ => l.length - (intOf i).toNat)
 case atStart => exact ⟨0, by omega, rfl, rfl, Below.refl _ _⟩
 case round =>
  obtain ⟨i, hi, rfl, hT, bel⟩ := hrel
  have HT := Lib.hid hT
  clear hT
  by_cases hlt : i < l.length
  ·obtain ⟨d, b, off, hd, rfl, hbl, _, d0, d1, d2⟩ := SL.out.atA bel hlt
   have j0 : (0 : Int) ≤ (i : Int) := Int.natCast_nonneg _
   have j1 : (i : Int) < (l.length : Int) := by omega
   have HD := Lib.hid hd
   have BE := Lib.hid bel
   clear hd
   cases hn : q d with
   | true =>
    have HN := Lib.hid hn
    clear hn
    go_wp2_with (first | (go_at_call 40; refine (calls_bool (HQ.out d _ (BE.out.mono hB)) HN.out).mono ?_; rintro e w1 ⟨rfl, hb2⟩; have B1 := Lib.hid (belowTo bel hb2 bel.size); clear hb2) | fail)
    go_ret
    exact ⟨ret_int (by rw [HT.out, idxF_hit HD.out HN.out]), B1.out⟩
   | false =>
    have HN := Lib.hid hn
    clear hn
    go_wp2_with (first | (go_at_call 40; refine (calls_bool (HQ.out d _ (BE.out.mono hB)) HN.out).mono ?_; rintro e w1 ⟨rfl, hb2⟩; have B1 := Lib.hid (belowTo bel hb2 bel.size); clear hb2) | fail)
    go_roundw
    case rel => exact ⟨i + 1, by omega, by go_num, by rw [HT.out, idxF_miss HD.out HN.out], B1.out⟩
    case measure => simp [intOf]; omega
  ·have HE := Lib.hid (idxF_end (q := q) (rs := l) (k := i) (by omega))
   go_wp2
   go_ret
   exact ⟨ret_int (by rw [HT.out, HE.out]), bel⟩
set_option maxRecDepth 100000 in
set_option maxHeartbeats 2000000 in
theorem ixx_tak1 (v : Value) (l : List Gr) (bc : Nat) (q : Gr → Bool) (B : Nat) (r : Int) (w : World) (sl : SlG w v l) (hB : B ≤ w.heap.size) (hq : ∀ (d : Gr) (wx : World), Below B w wx → Calls Tryz.prog 23 #[.agg #[.int .i64 d.s, .int .i64 d.o, .int .i64 d.p, .int .i64 d.m, .int .i64 d.u], .pointer (some ⟨bc, 0, none⟩)] wx fun e w' => e = .returned (.bool (q d)) ∧ Below wx.heap.size wx w') (hr : idxD q l = r) :
  Calls Tryz.prog 22 #[v, .func (.func 23) #[] #[.pointer (some ⟨bc, 0, none⟩)]] w fun e w' => e = .returned (.int .i64 r) ∧ Below w.heap.size w w' := by
 subst hr
 obtain ⟨p, cap, e0, hlc, hcm, hpn⟩ := sl.form l.length rfl
 subst e0
 have SL := Lib.hid sl
 unfold maxLen at hcm
 clear hpn sl
 have HQ := Lib.hid hq
 clear hq
 go_enter Tryz.func22, Tryz.ntmps22
 go_wp2
 go_loopw [8] (fun ii wr => ∃ (i : Nat), i ≤ l.length ∧ ii = .int .i64 i ∧ idxD q l = idxF q (l.drop i) i ∧ Below w.heap.size w wr) (fun i _ => l.length - (intOf i).toNat)
 case atStart => exact ⟨0, by omega, rfl, rfl, Below.refl _ _⟩
 case round =>
  obtain ⟨i, hi, rfl, hT, bel⟩ := hrel
  have HT := Lib.hid hT
  clear hT
  by_cases hlt : i < l.length
  ·obtain ⟨d, b, off, hd, rfl, hbl, _, d0, d1, d2, d3, d4⟩ := SL.out.atG bel hlt
   have j0 : (0 : Int) ≤ (i : Int) := Int.natCast_nonneg _
   have j1 : (i : Int) < (l.length : Int) := by omega
   have HD := Lib.hid hd
   have BE := Lib.hid bel
   clear hd
   cases hn : q d with
   | true =>
    have HN := Lib.hid hn
    clear hn
    go_wp2_with (first | (go_at_call 23; refine (calls_bool (HQ.out d _ (BE.out.mono hB)) HN.out).mono ?_; rintro e w1 ⟨rfl, hb2⟩; have B1 := Lib.hid (belowTo bel hb2 bel.size); clear hb2) | fail)
    go_ret
    exact ⟨ret_int (by rw [HT.out, idxF_hit HD.out HN.out]), B1.out⟩
   | false =>
    have HN := Lib.hid hn
    clear hn
    go_wp2_with (first | (go_at_call 23; refine (calls_bool (HQ.out d _ (BE.out.mono hB)) HN.out).mono ?_; rintro e w1 ⟨rfl, hb2⟩; have B1 := Lib.hid (belowTo bel hb2 bel.size); clear hb2) | fail)
    go_roundw
    case rel => exact ⟨i + 1, by omega, by go_num, by rw [HT.out, idxF_miss HD.out HN.out], B1.out⟩
    case measure => simp [intOf]; omega
  ·have HE := Lib.hid (idxF_end (q := q) (rs := l) (k := i) (by omega))
   go_wp2
   go_ret
   exact ⟨ret_int (by rw [HT.out, HE.out]), bel⟩
set_option maxRecDepth 100000 in
set_option maxHeartbeats 2000000 in
theorem cfx_tel1 (v : Value) (l : List Us) (bc bp bs : Nat) (cs co me : Int) (x : Bool) (w : World) (sl : SlU w v l) (hbc : bc < w.heap.size) (hbp : bp < w.heap.size) (hbs : bs < w.heap.size) (m0 : w.cell? ⟨bc, 0, none⟩ = some (.int .i64 cs)) (m1 : w.cell? ⟨bc, 1, none⟩ = some (.int .i64 co)) (m2 : w.cell? ⟨bp, 0, none⟩ = some (.pointer (some ⟨bs, 0, none⟩))) (m3 : w.cell? ⟨bs, 2, none⟩ = some (.int .i64 me)) (hx : l.any (fun d : Us => ((d.s == cs && d.o == co) && d.p == me)) = x) : Calls Tryz.prog 67 #[v, .func (.func 68) #[] #[.pointer (some ⟨bc, 0, none⟩), .pointer (some ⟨bp, 0, none⟩)]] w fun e w' => e = .returned (.bool x) ∧ Below w.heap.size w w' := by
 rw [← idx_any] at hx
 obtain ⟨F, hF⟩ : ∃ F, idxD (fun d : Us => ((d.s == cs && d.o == co) && d.p == me)) l = F := ⟨_, rfl⟩
 rw [hF] at hx
 have HX := Lib.hid hx
 have HC := Lib.hid (ixx_tel1 v l bc bp (fun d : Us => ((d.s == cs && d.o == co) && d.p == me)) w.heap.size F w sl (Nat.le_refl _) (fun d wx hbx => tel1_any bc bp bs cs co me d wx (Nat.lt_of_lt_of_le hbc hbx.size) (Nat.lt_of_lt_of_le hbp hbx.size) (Nat.lt_of_lt_of_le hbs hbx.size) ((hbx.cell (p := ⟨bc, 0, none⟩) hbc).trans m0) ((hbx.cell (p := ⟨bc, 1, none⟩) hbc).trans m1) ((hbx.cell (p := ⟨bp, 0, none⟩) hbp).trans m2) ((hbx.cell (p := ⟨bs, 2, none⟩) hbs).trans m3)) hF)
 clear hF hx m0 m1 m2 m3
 go_enter Tryz.func67, Tryz.ntmps67
 go_wp2_with fail
 refine HC.out.mono ?_
 rintro e w1 ⟨rfl, hb2⟩
 go_wp2_with fail
 all_goals (go_ret; exact ⟨ret_bool (by rw [← HX.out]), hb2⟩)
set_option maxRecDepth 100000 in
set_option maxHeartbeats 2000000 in
theorem cfx_usd2 (v : Value) (l : List Us) (bc : Nat) (cs co : Int) (x : Bool) (w : World) (sl : SlU w v l) (hbc : bc < w.heap.size) (m0 : w.cell? ⟨bc, 0, none⟩ = some (.int .i64 cs)) (m1 : w.cell? ⟨bc, 1, none⟩ = some (.int .i64 co)) (hx : l.any (fun d : Us => (d.s == cs && d.o == co)) = x) : Calls Tryz.prog 67 #[v, .func (.func 72) #[] #[.pointer (some ⟨bc, 0, none⟩)]] w fun e w' => e = .returned (.bool x) ∧ Below w.heap.size w w' := by
 rw [← idx_any] at hx
 obtain ⟨F, hF⟩ : ∃ F, idxD (fun d : Us => (d.s == cs && d.o == co)) l = F := ⟨_, rfl⟩
 rw [hF] at hx
 have HX := Lib.hid hx
 have HC := Lib.hid (ixx_usd2 v l bc (fun d : Us => (d.s == cs && d.o == co)) w.heap.size F w sl (Nat.le_refl _) (fun d wx hbx => usd2_any bc cs co d wx (Nat.lt_of_lt_of_le hbc hbx.size) ((hbx.cell (p := ⟨bc, 0, none⟩) hbc).trans m0) ((hbx.cell (p := ⟨bc, 1, none⟩) hbc).trans m1)) hF)
 clear hF hx m0 m1
 go_enter Tryz.func67, Tryz.ntmps67
 go_wp2_with fail
 refine HC.out.mono ?_
 rintro e w1 ⟨rfl, hb2⟩
 go_wp2_with fail
 all_goals (go_ret; exact ⟨ret_bool (by rw [← HX.out]), hb2⟩)
set_option maxRecDepth 100000 in
set_option maxHeartbeats 2000000 in
theorem cfx_pos2 (v : Value) (l : List Gr) (bc bp bs : Nat) (cs co me : Int) (x : Bool) (w : World) (sl : SlG w v l) (hbc : bc < w.heap.size) (hbp : bp < w.heap.size) (hbs : bs < w.heap.size) (m0 : w.cell? ⟨bc, 0, none⟩ = some (.int .i64 cs)) (m1 : w.cell? ⟨bc, 1, none⟩ = some (.int .i64 co)) (m2 : w.cell? ⟨bp, 0, none⟩ = some (.pointer (some ⟨bs, 0, none⟩))) (m3 : w.cell? ⟨bs, 2, none⟩ = some (.int .i64 me)) (hx : l.any (fun d : Gr => ((d.s == cs && d.o == co) && !(d.p == me))) = x) : Calls Tryz.prog 76 #[v, .func (.func 77) #[] #[.pointer (some ⟨bc, 0, none⟩), .pointer (some ⟨bp, 0, none⟩)]] w fun e w' => e = .returned (.bool x) ∧ Below w.heap.size w w' := by
 rw [← idx_any] at hx
 obtain ⟨F, hF⟩ : ∃ F, idxD (fun d : Gr => ((d.s == cs && d.o == co) && !(d.p == me))) l = F := ⟨_, rfl⟩
 rw [hF] at hx
 have HX := Lib.hid hx
 have HC := Lib.hid (ixx_pos2 v l bc bp (fun d : Gr => ((d.s == cs && d.o == co) && !(d.p == me))) w.heap.size F w sl (Nat.le_refl _) (fun d wx hbx => pos2_any bc bp bs cs co me d wx (Nat.lt_of_lt_of_le hbc hbx.size) (Nat.lt_of_lt_of_le hbp hbx.size) (Nat.lt_of_lt_of_le hbs hbx.size) ((hbx.cell (p := ⟨bc, 0, none⟩) hbc).trans m0) ((hbx.cell (p := ⟨bc, 1, none⟩) hbc).trans m1) ((hbx.cell (p := ⟨bp, 0, none⟩) hbp).trans m2) ((hbx.cell (p := ⟨bs, 2, none⟩) hbs).trans m3)) hF)
 clear hF hx m0 m1 m2 m3
 go_enter Tryz.func76, Tryz.ntmps76
 go_wp2_with fail
 refine HC.out.mono ?_
 rintro e w1 ⟨rfl, hb2⟩
 go_wp2_with fail
 all_goals (go_ret; exact ⟨ret_bool (by rw [← HX.out]), hb2⟩)
set_option maxRecDepth 100000 in
set_option maxHeartbeats 2000000 in
theorem cfx_ask3 (v : Value) (l : List Ak) (bc : Nat) (cs : Int) (x : Bool) (w : World) (sl : SlA w v l) (hbc : bc < w.heap.size) (m0 : w.cell? ⟨bc, 0, none⟩ = some (.int .i64 cs)) (hx : l.any (fun d : Ak => (d.s == cs)) = x) : Calls Tryz.prog 39 #[v, .func (.func 40) #[] #[.pointer (some ⟨bc, 0, none⟩)]] w fun e w' => e = .returned (.bool x) ∧ Below w.heap.size w w' := by
 rw [← idx_any] at hx
 obtain ⟨F, hF⟩ : ∃ F, idxD (fun d : Ak => (d.s == cs)) l = F := ⟨_, rfl⟩
 rw [hF] at hx
 have HX := Lib.hid hx
 have HC := Lib.hid (ixx_ask3 v l bc (fun d : Ak => (d.s == cs)) w.heap.size F w sl (Nat.le_refl _) (fun d wx hbx => ask3_any bc cs d wx (Nat.lt_of_lt_of_le hbc hbx.size) ((hbx.cell (p := ⟨bc, 0, none⟩) hbc).trans m0)) hF)
 clear hF hx m0
 go_enter Tryz.func39, Tryz.ntmps39
 go_wp2_with fail
 refine HC.out.mono ?_
 rintro e w1 ⟨rfl, hb2⟩
 go_wp2_with fail
 all_goals (go_ret; exact ⟨ret_bool (by rw [← HX.out]), hb2⟩)
set_option maxRecDepth 100000 in
set_option maxHeartbeats 2000000 in
theorem eq_ask (a b : Ak) (y : Bool) (w : World) (h : (b.s == a.s && b.o == a.o && b.p == a.p) = y) : (binOp .eql 81 (.agg #[.int .i64 a.s, .int .i64 a.o, .int .i64 a.p]) (.agg #[.int .i64 b.s, .int .i64 b.o, .int .i64 b.p])).run Tryz.prog w = .ok (.bool y) w := by
 subst h
 rw [BEq.comm (a := b.s), BEq.comm (a := b.o), BEq.comm (a := b.p)]
 go_simp
 by_cases h0 : a.s = b.s
 ·by_cases h1 : a.o = b.o
  ·by_cases h2 : a.p = b.p <;> simp [h0, h1, h2]
  ·simp [h0, h1]
 ·simp [h0]
set_option maxRecDepth 100000 in
set_option maxHeartbeats 2000000 in
theorem ixa_any (v : Value) (l : List Ak) (x : Ak) (r : Int) (w : World) (sl : SlA w v l) (hr : idxD (fun d : Ak => d.s == x.s && d.o == x.o && d.p == x.p) l = r) : Calls Tryz.prog 97 #[v, .agg #[.int .i64 x.s, .int .i64 x.o, .int .i64 x.p]] w fun e w' => e = .returned (.int .i64 r) ∧ Below w.heap.size w w' := by
 subst hr
 obtain ⟨p, cap, e0, hlc, hcm, hpn⟩ := sl.form l.length rfl
 subst e0
 have SL := Lib.hid sl
 unfold maxLen at hcm
 clear hpn sl
 go_enter Tryz.func97, Tryz.ntmps97
 go_wp2
 have oX : Own (w.alloc (Obj.cells #[.int .i64 x.s, .int .i64 x.o, .int .i64 x.p] 81)) w.heap.size [.int .i64 x.s, .int .i64 x.o, .int .i64 x.p] 81 := own_at _ _ rfl
 have BX := Lib.hid (belowNew w (Obj.cells #[.int .i64 x.s, .int .i64 x.o, .int .i64 x.p] 81))
 have OX := Lib.hid oX
 clear oX
 generalize w.alloc (Obj.cells #[.int .i64 x.s, .int .i64 x.o, .int .i64 x.p] 81) = w0 at OX BX ⊢
 go_loopw [8] (fun ii wr => ∃ (i : Nat), i ≤ l.length ∧ ii = .int .i64 i ∧ idxD (fun d : Ak => d.s == x.s && d.o == x.o && d.p == x.p) l = idxF (fun d : Ak => d.s == x.s && d.o == x.o && d.p == x.p) (l.drop i) i ∧ Below w0.heap.size w0 wr) (fun i _ => l.length - (intOf i).toNat)
 case atStart => exact ⟨0, by omega, rfl, rfl, Below.refl _ _⟩
 case round =>
  obtain ⟨i, hi, rfl, hT, bel⟩ := hrel
  have HT := Lib.hid hT
  clear hT
  have oX := OX.out.below bel
  obtain ⟨x0, x1, x2, fX, zX⟩ := own3 oX
  by_cases hlt : i < l.length
  ·obtain ⟨d, b, off, hd, rfl, hbl, _, d0, d1, d2⟩ := SL.out.atA (belowTo BX.out bel BX.out.size) hlt
   have j0 : (0 : Int) ≤ (i : Int) := Int.natCast_nonneg _
   have j1 : (i : Int) < (l.length : Int) := by omega
   have HD := Lib.hid hd
   have BE := Lib.hid bel
   clear hd
   cases hn : (d.s == x.s && d.o == x.o && d.p == x.p) with
   | true =>
    have HN := Lib.hid hn
    have qe := fun w => eq_ask x d true w hn
    clear hn
    go_wp2_with fail
    go_quiet (fail)
    go_wp2_with fail
    go_ret
    exact ⟨ret_int (by rw [HT.out, idxF_hit HD.out HN.out]), belowN (belowTo BX.out BE.out BX.out.size)⟩
   | false =>
    have HN := Lib.hid hn
    have qe := fun w => eq_ask x d false w hn
    clear hn
    go_wp2_with fail
    go_quiet (fail)
    go_wp2_with fail
    go_roundw
    case rel => exact ⟨i + 1, by omega, by go_num, by rw [HT.out, idxF_miss HD.out HN.out], belowN BE.out⟩
    case measure => simp [intOf]; omega
  ·have HE := Lib.hid (idxF_end (q := (fun d : Ak => d.s == x.s && d.o == x.o && d.p == x.p)) (rs := l) (k := i) (by omega))
   go_wp2
   go_ret
   exact ⟨ret_int (by rw [HT.out, HE.out]), belowTo BX.out bel BX.out.size⟩
set_option maxRecDepth 100000 in
set_option maxHeartbeats 2000000 in
theorem con_any (v : Value) (l : List Ak) (z : Ak) (x : Bool) (w : World) (sl : SlA w v l) (hx : l.any (fun d : Ak => d.s == z.s && d.o == z.o && d.p == z.p) = x) : Calls Tryz.prog 69 #[v, .agg #[.int .i64 z.s, .int .i64 z.o, .int .i64 z.p]] w fun e w' => e = .returned (.bool x) ∧ Below w.heap.size w w' := by
 rw [← idx_any] at hx
 obtain ⟨F, hF⟩ : ∃ F, idxD (fun d : Ak => d.s == z.s && d.o == z.o && d.p == z.p) l = F := ⟨_, rfl⟩
 rw [hF] at hx
 have HX := Lib.hid hx
 have HF := Lib.hid hF
 have SL := Lib.hid sl
 clear hx hF sl
 go_enter Tryz.func69, Tryz.ntmps69
 go_wp2_with fail
 refine (ixa_any _ l z F _ (SL.out.below (belowNew w (Obj.cells #[.int .i64 z.s, .int .i64 z.o, .int .i64 z.p] 81))) HF.out).mono ?_
 rintro e w1 ⟨rfl, hb⟩
 have B1 := Lib.hid (belowTo (belowNew w (Obj.cells #[.int .i64 z.s, .int .i64 z.o, .int .i64 z.p] 81)) hb (by simp))
 clear hb
 go_wp2_with fail
 all_goals (go_ret; exact ⟨ret_bool (by rw [← HX.out]), B1.out⟩)
set_option maxRecDepth 100000 in
set_option maxHeartbeats 2000000 in
theorem only4_any (v : Value) (l : List Gr) (bp bs : Nat) (me f : Int) (w : World) (sl : SlG w v l) (h100 : l.length ≤ 100) (hbp : bp < w.heap.size) (hbs : bs < w.heap.size) (m0 : w.cell? ⟨bp, 0, none⟩ = some (.pointer (some ⟨bs, 0, none⟩))) (m1 : w.cell? ⟨bs, 2, none⟩ = some (.int .i64 me)) (m2 : w.cell? ⟨bs, 4, none⟩ = some (.int .i64 f)) : Calls Tryz.prog 47 #[v, .func (.func 54) #[] #[.pointer (some ⟨bp, 0, none⟩)]] w fun e w' => RetG w (l.filter (fun d : Gr => (d.p == me && decide (f ≤ d.u)))) e w' := by
 obtain ⟨p, cap, e0, hlc, hcm, hpn⟩ := sl.form l.length rfl
 subst e0
 have SL := Lib.hid sl
 unfold maxLen at hcm
 clear hpn sl
 obtain ⟨i0, hi, hz, hs0, hb0⟩ := info_parts info_g
 have IF := Lib.hid (And.intro hi (And.intro hz (And.intro hs0 hb0)))
 clear hi hz hs0 hb0
 have HQ := Lib.hid (show ∀ (d : Gr) (wx : World), Below w.heap.size w wx → Calls Tryz.prog 54 #[.agg #[.int .i64 d.s, .int .i64 d.o, .int .i64 d.p, .int .i64 d.m, .int .i64 d.u], .pointer (some ⟨bp, 0, none⟩)] wx fun e w' => e = .returned (.bool ((d.p == me && decide (f ≤ d.u)))) ∧ Below wx.heap.size wx w' from fun d wx hbx => grd1_any bp bs me f d wx (Nat.lt_of_lt_of_le hbp hbx.size) (Nat.lt_of_lt_of_le hbs hbx.size) ((hbx.cell (p := ⟨bp, 0, none⟩) hbp).trans m0) ((hbx.cell (p := ⟨bs, 2, none⟩) hbs).trans m1) ((hbx.cell (p := ⟨bs, 4, none⟩) hbs).trans m2))
 clear m0 m1 m2
 go_enter Tryz.func47, Tryz.ntmps47
 go_wp2_with fail
 go_loopw [5, 10] (fun out ii wz => ∃ (i : Nat) (qs : List Gr), i ≤ l.length ∧ ii = .int .i64 i ∧ qs = (l.take i).filter (fun d : Gr => (d.p == me && decide (f ≤ d.u))) ∧ wz.ownsRow w.heap.size 52 5 out qs.length (flatT grL qs) ∧ Below w.heap.size w wz) (fun _ i _ => l.length - (intOf i).toNat)
 case atStart => exact ⟨0, [], by omega, rfl, rfl, World.ownsRow_nil _ _ _ _, Below.refl _ _⟩
 case round =>
  obtain ⟨i, qs, hi, rfl, hq, hown, bel⟩ := hrel
  have hql : qs.length ≤ 100 := by rw [hq]; have := filt_leB (fun d : Gr => (d.p == me && decide (f ≤ d.u))) l i; omega
  have HQS := Lib.hid hq
  have HOWN := Lib.hid hown
  have BE := Lib.hid bel
  clear hq hown bel
  have j0 : (0 : Int) ≤ (i : Int) := Int.natCast_nonneg _
  by_cases hlt : i < l.length
  ·obtain ⟨d, b, off, hd, rfl, hbl, _, d0, d1, d2, d3, d4⟩ := SL.out.atG BE.out hlt
   have j1 : (i : Int) < (l.length : Int) := by omega
   have HD := Lib.hid (take_filtB (p := (fun d : Gr => (d.p == me && decide (f ≤ d.u)))) hd)
   clear hd
   have B1 := Lib.hid (BE.out.alloc BE.out.size (.cells #[.int .i64 d.s, .int .i64 d.o, .int .i64 d.p, .int .i64 d.m, .int .i64 d.u] 52))
   cases hn : (d.p == me && decide (f ≤ d.u)) with
   | false =>
    have HN := Lib.hid hn
    clear hn
    go_wp2_with fail
    refine (HQ.out d _ B1.out).mono ?_
    rintro e w1 ⟨rfl, hbb⟩
    rw [HN.out]
    have B2 := Lib.hid (belowTo B1.out hbb B1.out.size)
    have H1 := Lib.hid (ownsRow_belowD (HOWN.out.alloc (.cells #[.int .i64 d.s, .int .i64 d.o, .int .i64 d.p, .int .i64 d.m, .int .i64 d.u] 52)) hbb)
    have oE := Lib.hid ((own_at (w := wr) [.int .i64 d.s, .int .i64 d.o, .int .i64 d.p, .int .i64 d.m, .int .i64 d.u] 52 rfl).below hbb)
    obtain ⟨x0, x1, x2, x3, x4, fE, zE⟩ := own5 oE.out
    clear hbb
    go_wp2_with fail
    go_roundw
    case rel => exact ⟨i + 1, qs, by omega, by go_num, by rw [HD.out, HQS.out]; simp only [HN.out]; simp, H1.out, B2.out⟩
    case measure => simp [intOf]; omega
   | true =>
    have HN := Lib.hid hn
    clear hn
    go_wp2_with fail
    refine (HQ.out d _ B1.out).mono ?_
    rintro e w1 ⟨rfl, hbb⟩
    rw [HN.out]
    have B2 := Lib.hid (belowTo B1.out hbb B1.out.size)
    have H1 := Lib.hid (ownsRow_belowD (HOWN.out.alloc (.cells #[.int .i64 d.s, .int .i64 d.o, .int .i64 d.p, .int .i64 d.m, .int .i64 d.u] 52)) hbb)
    have oE := Lib.hid ((own_at (w := wr) [.int .i64 d.s, .int .i64 d.o, .int .i64 d.p, .int .i64 d.m, .int .i64 d.u] 52 rfl).below hbb)
    obtain ⟨x0, x1, x2, x3, x4, fE, zE⟩ := own5 oE.out
    clear hbb
    go_wp2_with (at_builtin; refine wpList_append_own _ rfl _ _ 40 rfl w.heap.size 52 i0 _ 5 40 (by kernel_rfl) IF.out.1 IF.out.2.1 IF.out.2.2.1 IF.out.2.2.2 rfl (by decide) _ qs.length (flatT grL qs) rfl (H1.out.alloc _) _ 1 1 (grL.f d) rfl rfl (newsT (L := grL) w1 d 52) (grL.one _) ?qc4 ?qc5 ?qc6 ?_)
    case qc4 => unfold maxLen; omega
    case qc5 => omega
    case qc6 => have := B2.out.size; simp; omega
    intro v2 w2 hown hgrow hnil
    have B3 := Lib.hid ((B2.out.alloc B2.out.size _).grown hgrow (by have := B2.out.size; simp; omega) (fun k hk => (H1.out.lt k hk).1))
    have H2 := Lib.hid hown
    clear hown hgrow hnil
    go_wp2_with fail
    go_roundw
    case rel => exact ⟨i + 1, qs ++ [d], by omega, by go_num, by rw [HD.out, HQS.out]; simp only [HN.out]; simp, by have := H2.out; rw [flatT_append, flatT_one]; simpa using this, B3.out⟩
    case measure => simp [intOf]; omega
  ·have HQ2 := Lib.hid (show qs = l.filter (fun d : Gr => (d.p == me && decide (f ≤ d.u))) by have h := HQS.out; rw [List.take_of_length_le (by omega)] at h; exact h)
   go_wp2_with fail
   go_ret
   exact ⟨_, rfl, by rw [← HQ2.out]; exact slt_of_own (L := grL) HOWN.out, BE.out⟩
end Go.Proofs.YtmopiifamopidaaGreat
end
section
namespace Go.Proofs.YtmopiifamopidaaGreat
open Go.RowKit
theorem own_setCells {b : Nat} {t : TypeId} : ∀ (vs post pre : List Value) (w : World), Own w b (pre ++ post) t → post.length = vs.length → Own (w.setCells b pre.length vs) b (pre ++ vs) t
 | [], post, pre, w, h, hl => by
  obtain rfl : post = [] := List.eq_nil_of_length_eq_zero (by simpa using hl)
  exact h
 | v :: vs, [], pre, w, h, hl => by simp at hl
 | v :: vs, p :: post, pre, w, h, hl => by
  have h1 := h.set pre.length v
  rw [List.set_append_right _ _ (Nat.le_refl _), Nat.sub_self, List.set_cons_zero, List.append_cons] at h1
  have h2 := own_setCells vs post (pre ++ [v]) _ h1 (by simpa using hl)
  rw [List.length_append, List.length_singleton, List.append_assoc] at h2
  exact h2
theorem own_setAll {b : Nat} {t : TypeId} {cs : List Value} {w : World} (h : Own w b cs t) (vs : List Value) (hl : cs.length = vs.length) : Own (w.setCells b 0 vs) b vs t := own_setCells vs cs [] w h hl
theorem own_there {w : World} {b : Nat} {cs : List Value} {t : TypeId} (h : Own w b cs t) : w.there b 0 cs.length := fun j hj => by
 rw [Nat.zero_add]
 exact ⟨by rw [h.cell (List.getElem?_eq_getElem hj)]; rfl, h.frozen j⟩
theorem storeN {ops : Array Oper} {rest : List Oper} {op : Oper} {a : Act} {w : World} {Q : Exit → Act → World → Prop} (r : Nr) (b : Nat) (cs : List Value) (t : TypeId) (hgd : op.guard = none)
  (hs : ∃ x y : Operand, op.op = .store 86 x y ∧ a.eval x = .pointer (some ⟨b, 0, none⟩) ∧ a.eval y = .agg #[.int .i64 r.b.fr, .int .i64 r.b.fm, .int .i64 0, .int .i64 0, .int .i64 0, .int .i64 0, .int .i64 0, .int .i64 0, .int .i64 0, .int .i64 0, .int .i64 0, .int .i64 0, .slice r.vu.p r.vu.n r.vu.c, .slice r.vg.p r.vg.n r.vg.c, .slice r.va.p r.va.n r.va.c, .slice none 0 0, .bool false, .slice none 0 0, .slice none 0 0, .slice none 0 0, .int .i64 0, .int .i64 0, .int .u64 0, .int .i64 0, .int .i64 0, .int .i64 0, .int .i64 0, .int .i64 0, .slice none 0 0, .slice none 0 0, .bool false]) (ho : Own w b cs t) (hl : cs.length = 31)
  (h : wpList Tryz.prog ops Q rest (a.put op.dst undef) (w.setCells b 0 r.cells)) : wpList Tryz.prog ops Q (op :: rest) a w := by
 obtain ⟨x, y, e, hx, hy⟩ := hs
 exact wpList_store_mid hgd 86 x y e b 0 r.cells.toArray hx hy (by have := own_there ho; rw [hl] at this; exact this) info_nrS (by simp [Nr.cells, Value.oneCell']) h
theorem res_nr {w : World} {b : Nat} {t : TypeId} {r : Nr} (h : Own w b r.cells t) : (loadVar 86 ⟨b, 0, none⟩).run Tryz.prog w = .ok (.agg #[.int .i64 r.b.fr, .int .i64 r.b.fm, .int .i64 0, .int .i64 0, .int .i64 0, .int .i64 0, .int .i64 0, .int .i64 0, .int .i64 0, .int .i64 0, .int .i64 0, .int .i64 0, .slice r.vu.p r.vu.n r.vu.c, .slice r.vg.p r.vg.n r.vg.c, .slice r.va.p r.va.n r.va.c, .slice none 0 0, .bool false, .slice none 0 0, .slice none 0 0, .slice none 0 0, .int .i64 0, .int .i64 0, .int .u64 0, .int .i64 0, .int .i64 0, .int .i64 0, .int .i64 0, .int .i64 0, .slice none 0 0, .slice none 0 0, .bool false]) w :=
 run_loadVar_mid w b 0 86 r.cells _ (fun j v hv => by rw [Nat.zero_add]; exact h.cell hv) Tryz.underlying86 rfl info_nrS
def nr0 : Nr := ⟨nb0, ⟨none, 0, 0⟩, ⟨none, 0, 0⟩, ⟨none, 0, 0⟩⟩
theorem nr0_ok (w : World) : NrOk w nr0 := ⟨slt_nil w, slt_nil w, slt_nil w⟩
set_option maxRecDepth 100000 in
set_option maxHeartbeats 2000000 in
theorem grd_any (bs : Nat) (N D me f : Int) (sv : Sv) (d : Nr) (w : World) (os : Own w bs [.int .i64 N, .int .i64 D, .int .i64 me, .slice sv.p sv.n sv.c, .int .i64 f] 93) (hk : NrOk w d) (h24 : d.b.gs.length ≤ 100) : Calls Tryz.prog 21 #[.pointer (some ⟨bs, 0, none⟩), .agg #[.int .i64 d.b.fr, .int .i64 d.b.fm, .int .i64 0, .int .i64 0, .int .i64 0, .int .i64 0, .int .i64 0, .int .i64 0, .int .i64 0, .int .i64 0, .int .i64 0, .int .i64 0, .slice d.vu.p d.vu.n d.vu.c, .slice d.vg.p d.vg.n d.vg.c, .slice d.va.p d.va.n d.va.c, .slice none 0 0, .bool false, .slice none 0 0, .slice none 0 0, .slice none 0 0, .int .i64 0, .int .i64 0, .int .u64 0, .int .i64 0, .int .i64 0, .int .i64 0, .int .i64 0, .int .i64 0, .slice none 0 0, .slice none 0 0, .bool false]] w fun e w' => RetG w (grdF me f d.b.gs) e w' := by
 have HK := Lib.hid hk.2.1
 clear hk
 obtain ⟨cS0, cS1, cS2, cS3, cS4, fS, zS⟩ := own5 os
 go_enter Tryz.func21, Tryz.ntmps21
 have BX := Lib.hid (show Below w.heap.size w ((w.alloc (.cells #[.pointer (some ⟨bs, 0, none⟩)] 82)).alloc (.cells #[.int .i64 d.b.fr, .int .i64 d.b.fm, .int .i64 0, .int .i64 0, .int .i64 0, .int .i64 0, .int .i64 0, .int .i64 0, .int .i64 0, .int .i64 0, .int .i64 0, .int .i64 0, .slice d.vu.p d.vu.n d.vu.c, .slice d.vg.p d.vg.n d.vg.c, .slice d.va.p d.va.n d.va.c, .slice none 0 0, .bool false, .slice none 0 0, .slice none 0 0, .slice none 0 0, .int .i64 0, .int .i64 0, .int .u64 0, .int .i64 0, .int .i64 0, .int .i64 0, .int .i64 0, .int .i64 0, .slice none 0 0, .slice none 0 0, .bool false] 86)) from ((Below.refl _ _).alloc (Nat.le_refl _) _).alloc (by simp) _)
 have OP := Lib.hid (show Own ((w.alloc (.cells #[.pointer (some ⟨bs, 0, none⟩)] 82)).alloc (.cells #[.int .i64 d.b.fr, .int .i64 d.b.fm, .int .i64 0, .int .i64 0, .int .i64 0, .int .i64 0, .int .i64 0, .int .i64 0, .int .i64 0, .int .i64 0, .int .i64 0, .int .i64 0, .slice d.vu.p d.vu.n d.vu.c, .slice d.vg.p d.vg.n d.vg.c, .slice d.va.p d.va.n d.va.c, .slice none 0 0, .bool false, .slice none 0 0, .slice none 0 0, .slice none 0 0, .int .i64 0, .int .i64 0, .int .u64 0, .int .i64 0, .int .i64 0, .int .i64 0, .int .i64 0, .int .i64 0, .slice none 0 0, .slice none 0 0, .bool false] 86)) w.heap.size [.pointer (some ⟨bs, 0, none⟩)] 82 from (own_at _ _ rfl).alloc _)
 have OSX := Lib.hid (os.below BX.out)
 go_wp2_with fail
 refine (only4_any _ d.b.gs w.heap.size bs me f _ (HK.out.below BX.out) h24 OP.out.lt OSX.out.lt (OP.out.cell (i := 0) rfl) (OSX.out.cell (i := 2) rfl) (OSX.out.cell (i := 4) rfl)).mono ?_
 rintro e w1 ⟨v1, rfl, s1, hb⟩
 replace os := ((os.alloc _).alloc _).below hb
 replace HK := Lib.hid (((HK.out.below (belowNew _ _)).below (belowNew _ _)).below hb)
 have oP : Own w1 w.heap.size [.pointer (some ⟨bs, 0, none⟩)] 82 := ((own_at _ _ rfl).alloc _).below hb
 have oN : Own w1 (w.heap.size + 1) [.int .i64 d.b.fr, .int .i64 d.b.fm, .int .i64 0, .int .i64 0, .int .i64 0, .int .i64 0, .int .i64 0, .int .i64 0, .int .i64 0, .int .i64 0, .int .i64 0, .int .i64 0, .slice d.vu.p d.vu.n d.vu.c, .slice d.vg.p d.vg.n d.vg.c, .slice d.va.p d.va.n d.va.c, .slice none 0 0, .bool false, .slice none 0 0, .slice none 0 0, .slice none 0 0, .int .i64 0, .int .i64 0, .int .u64 0, .int .i64 0, .int .i64 0, .int .i64 0, .int .i64 0, .int .i64 0, .slice none 0 0, .slice none 0 0, .bool false] 86 := (own_at _ _ (by simp)).below hb
 have bel := belowTo (((Below.refl w.heap.size w).alloc (by simp) _).alloc (by simp) _) hb (by simp; omega)
 clear hb
 clear cS0 cS1 cS2 cS3 cS4 fS zS
 obtain ⟨cS0, cS1, cS2, cS3, cS4, fS, zS⟩ := own5 os
 obtain ⟨cP0, fP, zP⟩ := own1 oP
 obtain ⟨cN0, cN1, cN12, cN13, cN14, fN, zN⟩ := own_nr (r := d) oN
 have S1 := Lib.hid s1
 clear s1
 go_wp2_with fail
 go_ret
 exact ⟨v1, rfl, S1.out, bel⟩
set_option maxRecDepth 100000 in
set_option maxHeartbeats 2000000 in
theorem fnd_some0 (bs : Nat) (N D me f : Int) (sv : Sv) (S : List Nr) (z : Int) (w : World) (os : Own w bs [.int .i64 N, .int .i64 D, .int .i64 me, .slice sv.p sv.n sv.c, .int .i64 f] 93) (sl : SlN w (.slice sv.p sv.n sv.c) S) (ho : NsOk w S) (h1000 : S.length ≤ 1000) (k : Nat) (r : Nr) (hr : S[k]? = some r) (hi : idxD (fun d : Nr => d.b.fm == z) S = (k : Int)) : Calls Tryz.prog 20 #[.pointer (some ⟨bs, 0, none⟩), .int .i64 z] w fun e w' => e = .returned (.tuple #[.agg #[.int .i64 r.b.fr, .int .i64 r.b.fm, .int .i64 0, .int .i64 0, .int .i64 0, .int .i64 0, .int .i64 0, .int .i64 0, .int .i64 0, .int .i64 0, .int .i64 0, .int .i64 0, .slice r.vu.p r.vu.n r.vu.c, .slice r.vg.p r.vg.n r.vg.c, .slice r.va.p r.va.n r.va.c, .slice none 0 0, .bool false, .slice none 0 0, .slice none 0 0, .slice none 0 0, .int .i64 0, .int .i64 0, .int .u64 0, .int .i64 0, .int .i64 0, .int .i64 0, .int .i64 0, .int .i64 0, .slice none 0 0, .slice none 0 0, .bool false], .bool true]) ∧ Below w.heap.size w w' := by
 have SL := Lib.hid sl
 have HO := Lib.hid ho
 have HI := Lib.hid hi
 clear sl ho hi
 have hkl : k < S.length := (List.getElem?_eq_some_iff.1 hr).1
 have HR := Lib.hid hr
 clear hr
 obtain ⟨cS0, cS1, cS2, cS3, cS4, fS, zS⟩ := own5 os
 go_enter Tryz.func20, Tryz.ntmps20
 have OP := Lib.hid (show Own ((w.alloc (.cells #[.int .i64 z] 3)).alloc (.cells #[.int .i64 0, .int .i64 0, .int .i64 0, .int .i64 0, .int .i64 0, .int .i64 0, .int .i64 0, .int .i64 0, .int .i64 0, .int .i64 0, .int .i64 0, .int .i64 0, .slice none 0 0, .slice none 0 0, .slice none 0 0, .slice none 0 0, .bool false, .slice none 0 0, .slice none 0 0, .slice none 0 0, .int .i64 0, .int .i64 0, .int .u64 0, .int .i64 0, .int .i64 0, .int .i64 0, .int .i64 0, .int .i64 0, .slice none 0 0, .slice none 0 0, .bool false] 86)) w.heap.size [.int .i64 z] 3 from (own_at _ _ rfl).alloc _)
 go_wp2_with fail
 refine (ixn_fnd_lit _ S w.heap.size (fun d : Nr => d.b.fm == z) (w.heap.size + 2) ((k : Int)) _ (SL.out.below (((Below.refl _ _).alloc (Nat.le_refl _) _).alloc (by simp) _)) (HO.out.below (((Below.refl _ _).alloc (Nat.le_refl _) _).alloc (by simp) _)) (by simp) (fun d wx _ hbx => fnd1_any w.heap.size z d wx (Nat.lt_of_lt_of_le OP.out.lt (by have := hbx.size; simp at this ⊢; omega)) ((hbx.cell (p := ⟨w.heap.size, 0, none⟩) (by simp)).trans (OP.out.cell (i := 0) rfl))) HI.out).mono ?_
 rintro e w1 ⟨rfl, hb⟩
 replace os := ((os.alloc _).alloc _).below hb
 replace SL := Lib.hid (((SL.out.below (belowNew _ _)).below (belowNew _ _)).below hb)
 replace HO := Lib.hid (((HO.out.below (belowNew _ _)).below (belowNew _ _)).below hb)
 have oP : Own w1 w.heap.size [.int .i64 z] 3 := ((own_at _ _ rfl).alloc _).below hb
 have oR : Own w1 (w.heap.size + 1) [.int .i64 0, .int .i64 0, .int .i64 0, .int .i64 0, .int .i64 0, .int .i64 0, .int .i64 0, .int .i64 0, .int .i64 0, .int .i64 0, .int .i64 0, .int .i64 0, .slice none 0 0, .slice none 0 0, .slice none 0 0, .slice none 0 0, .bool false, .slice none 0 0, .slice none 0 0, .slice none 0 0, .int .i64 0, .int .i64 0, .int .u64 0, .int .i64 0, .int .i64 0, .int .i64 0, .int .i64 0, .int .i64 0, .slice none 0 0, .slice none 0 0, .bool false] 86 := (own_at _ _ (by simp)).below hb
 have bel := belowTo (((Below.refl w.heap.size w).alloc (by simp) _).alloc (by simp) _) hb (by simp; omega)
 clear hb
 clear cS0 cS1 cS2 cS3 cS4 fS zS
 obtain ⟨cS0, cS1, cS2, cS3, cS4, fS, zS⟩ := own5 os
 obtain ⟨cP0, fP, zP⟩ := own1 oP
 obtain ⟨cR0, cR1, cR12, cR13, cR14, fR, zR⟩ := own_nr (r := nr0) oR
 clear cR0 cR1 cR12 cR13 cR14
 obtain ⟨pv, cv, e0, hlc, hcm, _⟩ := SL.out.form S.length rfl
 have E0 := Lib.hid e0
 clear e0
 have SL2 := SL.out
 rw [E0.out] at SL2 cS3
 obtain ⟨d, b, off, hd, rfl, hbl, _, hrg⟩ := SL2.atN (Below.refl _ _) hkl
 have HRG := Lib.hid hrg
 have HD := Lib.hid (show d = r from by have := HR.out; rw [hd] at this; exact Option.some.inj this)
 clear hd hrg SL2
 have j0 : (0 : Int) ≤ (k : Int) := Int.natCast_nonneg _
 have j1 : (k : Int) < (S.length : Int) := by omega
 unfold maxLen at hcm
 go_wp2_with (first | ((with_reducible refine loadN r b (off + k * 31) ?_ ?_ (HD.out ▸ HRG.out) ?_); (next => rfl); (next => exact ⟨_, rfl, rfl⟩)) | ((with_reducible refine storeN r (w.heap.size + 1) _ _ ?_ ?_ oR ?_ ?_); (next => rfl); (next => exact ⟨_, _, rfl, rfl, rfl⟩); (next => rfl)) | fail)
 have OR2 := Lib.hid (own_setAll oR (Nr.cells r) rfl)
 have BR2 := Lib.hid (below_setCells (w.heap.size + 1) (by omega) (Nr.cells r) 0 _ bel)
 refine bodyPost_ret (v := .tuple #[.agg #[.int .i64 r.b.fr, .int .i64 r.b.fm, .int .i64 0, .int .i64 0, .int .i64 0, .int .i64 0, .int .i64 0, .int .i64 0, .int .i64 0, .int .i64 0, .int .i64 0, .int .i64 0, .slice r.vu.p r.vu.n r.vu.c, .slice r.vg.p r.vg.n r.vg.c, .slice r.va.p r.va.n r.va.c, .slice none 0 0, .bool false, .slice none 0 0, .slice none 0 0, .slice none 0 0, .int .i64 0, .int .i64 0, .int .u64 0, .int .i64 0, .int .i64 0, .int .i64 0, .int .i64 0, .int .i64 0, .slice none 0 0, .slice none 0 0, .bool false], .bool true]) ?_ rfl ⟨rfl, BR2.out⟩
 rw [results_cell_tmp Tryz.results20]
 simp [asAddr, res_nr OR2.out, Result.andThen]
set_option maxRecDepth 100000 in
set_option maxHeartbeats 2000000 in
theorem fnd_none0 (bs : Nat) (N D me f : Int) (sv : Sv) (S : List Nr) (z : Int) (w : World) (os : Own w bs [.int .i64 N, .int .i64 D, .int .i64 me, .slice sv.p sv.n sv.c, .int .i64 f] 93) (sl : SlN w (.slice sv.p sv.n sv.c) S) (ho : NsOk w S) (h1000 : S.length ≤ 1000) (hi : idxD (fun d : Nr => d.b.fm == z) S = -1) : Calls Tryz.prog 20 #[.pointer (some ⟨bs, 0, none⟩), .int .i64 z] w fun e w' => e = .returned (.tuple #[.agg #[.int .i64 nr0.b.fr, .int .i64 nr0.b.fm, .int .i64 0, .int .i64 0, .int .i64 0, .int .i64 0, .int .i64 0, .int .i64 0, .int .i64 0, .int .i64 0, .int .i64 0, .int .i64 0, .slice nr0.vu.p nr0.vu.n nr0.vu.c, .slice nr0.vg.p nr0.vg.n nr0.vg.c, .slice nr0.va.p nr0.va.n nr0.va.c, .slice none 0 0, .bool false, .slice none 0 0, .slice none 0 0, .slice none 0 0, .int .i64 0, .int .i64 0, .int .u64 0, .int .i64 0, .int .i64 0, .int .i64 0, .int .i64 0, .int .i64 0, .slice none 0 0, .slice none 0 0, .bool false], .bool false]) ∧ Below w.heap.size w w' := by
 have SL := Lib.hid sl
 have HO := Lib.hid ho
 have HI := Lib.hid hi
 clear sl ho hi
 obtain ⟨cS0, cS1, cS2, cS3, cS4, fS, zS⟩ := own5 os
 go_enter Tryz.func20, Tryz.ntmps20
 have OP := Lib.hid (show Own ((w.alloc (.cells #[.int .i64 z] 3)).alloc (.cells #[.int .i64 0, .int .i64 0, .int .i64 0, .int .i64 0, .int .i64 0, .int .i64 0, .int .i64 0, .int .i64 0, .int .i64 0, .int .i64 0, .int .i64 0, .int .i64 0, .slice none 0 0, .slice none 0 0, .slice none 0 0, .slice none 0 0, .bool false, .slice none 0 0, .slice none 0 0, .slice none 0 0, .int .i64 0, .int .i64 0, .int .u64 0, .int .i64 0, .int .i64 0, .int .i64 0, .int .i64 0, .int .i64 0, .slice none 0 0, .slice none 0 0, .bool false] 86)) w.heap.size [.int .i64 z] 3 from (own_at _ _ rfl).alloc _)
 go_wp2_with fail
 refine (ixn_fnd_lit _ S w.heap.size (fun d : Nr => d.b.fm == z) (w.heap.size + 2) (-1) _ (SL.out.below (((Below.refl _ _).alloc (Nat.le_refl _) _).alloc (by simp) _)) (HO.out.below (((Below.refl _ _).alloc (Nat.le_refl _) _).alloc (by simp) _)) (by simp) (fun d wx _ hbx => fnd1_any w.heap.size z d wx (Nat.lt_of_lt_of_le OP.out.lt (by have := hbx.size; simp at this ⊢; omega)) ((hbx.cell (p := ⟨w.heap.size, 0, none⟩) (by simp)).trans (OP.out.cell (i := 0) rfl))) HI.out).mono ?_
 rintro e w1 ⟨rfl, hb⟩
 replace os := ((os.alloc _).alloc _).below hb
 replace SL := Lib.hid (((SL.out.below (belowNew _ _)).below (belowNew _ _)).below hb)
 replace HO := Lib.hid (((HO.out.below (belowNew _ _)).below (belowNew _ _)).below hb)
 have oP : Own w1 w.heap.size [.int .i64 z] 3 := ((own_at _ _ rfl).alloc _).below hb
 have oR : Own w1 (w.heap.size + 1) [.int .i64 0, .int .i64 0, .int .i64 0, .int .i64 0, .int .i64 0, .int .i64 0, .int .i64 0, .int .i64 0, .int .i64 0, .int .i64 0, .int .i64 0, .int .i64 0, .slice none 0 0, .slice none 0 0, .slice none 0 0, .slice none 0 0, .bool false, .slice none 0 0, .slice none 0 0, .slice none 0 0, .int .i64 0, .int .i64 0, .int .u64 0, .int .i64 0, .int .i64 0, .int .i64 0, .int .i64 0, .int .i64 0, .slice none 0 0, .slice none 0 0, .bool false] 86 := (own_at _ _ (by simp)).below hb
 have bel := belowTo (((Below.refl w.heap.size w).alloc (by simp) _).alloc (by simp) _) hb (by simp; omega)
 clear hb
 clear cS0 cS1 cS2 cS3 cS4 fS zS
 obtain ⟨cS0, cS1, cS2, cS3, cS4, fS, zS⟩ := own5 os
 obtain ⟨cP0, fP, zP⟩ := own1 oP
 obtain ⟨cR0, cR1, cR12, cR13, cR14, fR, zR⟩ := own_nr (r := nr0) oR
 clear cR0 cR1 cR12 cR13 cR14
 go_wp2_with (first | ((with_reducible refine storeN nr0 (w.heap.size + 1) _ _ ?_ ?_ oR ?_ ?_); (next => rfl); (next => exact ⟨_, _, rfl, rfl, rfl⟩); (next => rfl)) | fail)
 have OR2 := Lib.hid (own_setAll oR (Nr.cells nr0) rfl)
 have BR2 := Lib.hid (below_setCells (w.heap.size + 1) (by omega) (Nr.cells nr0) 0 _ bel)
 refine bodyPost_ret (v := .tuple #[.agg #[.int .i64 nr0.b.fr, .int .i64 nr0.b.fm, .int .i64 0, .int .i64 0, .int .i64 0, .int .i64 0, .int .i64 0, .int .i64 0, .int .i64 0, .int .i64 0, .int .i64 0, .int .i64 0, .slice nr0.vu.p nr0.vu.n nr0.vu.c, .slice nr0.vg.p nr0.vg.n nr0.vg.c, .slice nr0.va.p nr0.va.n nr0.va.c, .slice none 0 0, .bool false, .slice none 0 0, .slice none 0 0, .slice none 0 0, .int .i64 0, .int .i64 0, .int .u64 0, .int .i64 0, .int .i64 0, .int .i64 0, .int .i64 0, .int .i64 0, .slice none 0 0, .slice none 0 0, .bool false], .bool false]) ?_ rfl ⟨rfl, BR2.out⟩
 rw [results_cell_tmp Tryz.results20]
 simp [asAddr, res_nr OR2.out, Result.andThen]
end Go.Proofs.YtmopiifamopidaaGreat
end
section
namespace Go.Proofs.YtmopiifamopidaaGreat
open Go.RowKit
def FindS (w : World) (n : Nb) (e : Ending) (w' : World) : Prop := ∃ r : Nr, e = .returned (.tuple #[.agg #[.int .i64 r.b.fr, .int .i64 r.b.fm, .int .i64 0, .int .i64 0, .int .i64 0, .int .i64 0, .int .i64 0, .int .i64 0, .int .i64 0, .int .i64 0, .int .i64 0, .int .i64 0, .slice r.vu.p r.vu.n r.vu.c, .slice r.vg.p r.vg.n r.vg.c, .slice r.va.p r.va.n r.va.c, .slice none 0 0, .bool false, .slice none 0 0, .slice none 0 0, .slice none 0 0, .int .i64 0, .int .i64 0, .int .u64 0, .int .i64 0, .int .i64 0, .int .i64 0, .int .i64 0, .int .i64 0, .slice none 0 0, .slice none 0 0, .bool false], .bool true]) ∧ NrOk w' r ∧ r.b = n ∧ Below w.heap.size w w'
theorem find_some (bs : Nat) (N D me f : Int) (sv : Sv) (S : List Nr) (z : Int) (n : Nb) (w : World) (os : Own w bs [.int .i64 N, .int .i64 D, .int .i64 me, .slice sv.p sv.n sv.c, .int .i64 f] 93) (sl : SlN w (.slice sv.p sv.n sv.c) S) (ho : NsOk w S) (h1000 : S.length ≤ 1000) (h : fndF z (S.map Nr.b) = some n) : Calls Tryz.prog 20 #[.pointer (some ⟨bs, 0, none⟩), .int .i64 z] w (FindS w n) := by
 rcases idx_cases (fun d : Nr => d.b.fm == z) S with ⟨h1, h2⟩ | ⟨k, r, hk, hq, hi, _, hf, _⟩
 ·rw [fndF, List.find?_map] at h
  have : S.find? ((fun n : Nb => n.fm == z) ∘ Nr.b) = none := List.find?_eq_none.2 fun d hd => by
   have := List.any_eq_false.1 h2 d hd; simpa using this
  rw [this] at h; cases h
 ·rw [fndF, List.find?_map, show S.find? ((fun n : Nb => n.fm == z) ∘ Nr.b) = some r from hf] at h
  exact (fnd_some0 bs N D me f sv S z w os sl ho h1000 k r hk hi).mono fun e w' ⟨he, hb⟩ => ⟨r, he, (ho.at hk).below hb, Option.some.inj h, hb⟩
theorem find_none (bs : Nat) (N D me f : Int) (sv : Sv) (S : List Nr) (z : Int) (w : World) (os : Own w bs [.int .i64 N, .int .i64 D, .int .i64 me, .slice sv.p sv.n sv.c, .int .i64 f] 93) (sl : SlN w (.slice sv.p sv.n sv.c) S) (ho : NsOk w S) (h1000 : S.length ≤ 1000) (h : fndF z (S.map Nr.b) = none) : Calls Tryz.prog 20 #[.pointer (some ⟨bs, 0, none⟩), .int .i64 z] w fun e w' => e = .returned (.tuple #[.agg #[.int .i64 nr0.b.fr, .int .i64 nr0.b.fm, .int .i64 0, .int .i64 0, .int .i64 0, .int .i64 0, .int .i64 0, .int .i64 0, .int .i64 0, .int .i64 0, .int .i64 0, .int .i64 0, .slice nr0.vu.p nr0.vu.n nr0.vu.c, .slice nr0.vg.p nr0.vg.n nr0.vg.c, .slice nr0.va.p nr0.va.n nr0.va.c, .slice none 0 0, .bool false, .slice none 0 0, .slice none 0 0, .slice none 0 0, .int .i64 0, .int .i64 0, .int .u64 0, .int .i64 0, .int .i64 0, .int .i64 0, .int .i64 0, .int .i64 0, .slice none 0 0, .slice none 0 0, .bool false], .bool false]) ∧ Below w.heap.size w w' := by
 rcases idx_cases (fun d : Nr => d.b.fm == z) S with ⟨h1, h2⟩ | ⟨k, r, hk, hq, hi, _, hf, _⟩
 ·exact fnd_none0 bs N D me f sv S z w os sl ho h1000 h1
 ·rw [fndF, List.find?_map, show S.find? ((fun n : Nb => n.fm == z) ∘ Nr.b) = some r from hf] at h
  cases h
set_option maxRecDepth 100000 in
set_option maxHeartbeats 2000000 in
theorem usd1_any (bu bc : Nat) (but cs co : Int) (d : Nr) (w : World) (hk : NrOk w d) (hbu : bu < w.heap.size) (hbc : bc < w.heap.size) (m0 : w.cell? ⟨bu, 0, none⟩ = some (.int .i64 but)) (m1 : w.cell? ⟨bc, 0, none⟩ = some (.int .i64 cs)) (m2 : w.cell? ⟨bc, 1, none⟩ = some (.int .i64 co)) : Calls Tryz.prog 71 #[.agg #[.int .i64 d.b.fr, .int .i64 d.b.fm, .int .i64 0, .int .i64 0, .int .i64 0, .int .i64 0, .int .i64 0, .int .i64 0, .int .i64 0, .int .i64 0, .int .i64 0, .int .i64 0, .slice d.vu.p d.vu.n d.vu.c, .slice d.vg.p d.vg.n d.vg.c, .slice d.va.p d.va.n d.va.c, .slice none 0 0, .bool false, .slice none 0 0, .slice none 0 0, .slice none 0 0, .int .i64 0, .int .i64 0, .int .u64 0, .int .i64 0, .int .i64 0, .int .i64 0, .int .i64 0, .int .i64 0, .slice none 0 0, .slice none 0 0, .bool false], .pointer (some ⟨bu, 0, none⟩), .pointer (some ⟨bc, 0, none⟩)] w fun e w' => e = .returned (.bool (!(d.b.fm == but) && d.b.us.any (fun d : Us => d.s == cs && d.o == co))) ∧ Below w.heap.size w w' := by
 have BX := Lib.hid (belowNew w (Obj.cells #[.int .i64 d.b.fr, .int .i64 d.b.fm, .int .i64 0, .int .i64 0, .int .i64 0, .int .i64 0, .int .i64 0, .int .i64 0, .int .i64 0, .int .i64 0, .int .i64 0, .int .i64 0, .slice d.vu.p d.vu.n d.vu.c, .slice d.vg.p d.vg.n d.vg.c, .slice d.va.p d.va.n d.va.c, .slice none 0 0, .bool false, .slice none 0 0, .slice none 0 0, .slice none 0 0, .int .i64 0, .int .i64 0, .int .u64 0, .int .i64 0, .int .i64 0, .int .i64 0, .int .i64 0, .int .i64 0, .slice none 0 0, .slice none 0 0, .bool false] 86))
 have HK := Lib.hid (hk.1.below BX.out)
 clear hk
 have n0 := (BX.out.cell (p := ⟨bu, 0, none⟩) hbu).trans m0
 have n1 := (BX.out.cell (p := ⟨bc, 0, none⟩) hbc).trans m1
 have n2 := (BX.out.cell (p := ⟨bc, 1, none⟩) hbc).trans m2
 have gbu : bu < w.heap.size + 1 := by omega
 have gbc : bc < w.heap.size + 1 := by omega
 clear m0 m1 m2
 cases hg : (d.b.fm == but) with
 | true =>
  have hg2 : (d.b.fm != but) = false := by simpa using hg
  go_enter Tryz.func71, Tryz.ntmps71
  go_wp2_with fail
  go_ret
  exact ⟨ret_bool (by first | rfl | simp [*]), BX.out⟩
 | false =>
  have hg2 : (d.b.fm != but) = true := by simpa using hg
  go_enter Tryz.func71, Tryz.ntmps71
  go_wp2_with fail
  refine (cfx_usd2 _ d.b.us bc cs co (d.b.us.any (fun d : Us => (d.s == cs && d.o == co))) _ HK.out (by have := BX.out.size; simp at this ⊢; omega) n1 n2 rfl).mono ?_
  rintro e w1 ⟨rfl, hb⟩
  have B1 := Lib.hid (belowTo BX.out hb (by simp))
  clear hb
  go_wp2_with fail
  go_ret
  exact ⟨ret_bool (by first | rfl | simp [*]), B1.out⟩
set_option maxRecDepth 100000 in
set_option maxHeartbeats 2000000 in
theorem ixn_usd (v : Value) (l : List Nr) (b1 b2 : Nat) (q : Nr → Bool) (B : Nat) (w : World) (sl : SlN w v l) (ho : NsOk w l) (hB : B ≤ w.heap.size) (hq : ∀ (d : Nr) (wx : World), NrOk wx d → Below B w wx → Calls Tryz.prog 71 #[.agg #[.int .i64 d.b.fr, .int .i64 d.b.fm, .int .i64 0, .int .i64 0, .int .i64 0, .int .i64 0, .int .i64 0, .int .i64 0, .int .i64 0, .int .i64 0, .int .i64 0, .int .i64 0, .slice d.vu.p d.vu.n d.vu.c, .slice d.vg.p d.vg.n d.vg.c, .slice d.va.p d.va.n d.va.c, .slice none 0 0, .bool false, .slice none 0 0, .slice none 0 0, .slice none 0 0, .int .i64 0, .int .i64 0, .int .u64 0, .int .i64 0, .int .i64 0, .int .i64 0, .int .i64 0, .int .i64 0, .slice none 0 0, .slice none 0 0, .bool false], .pointer (some ⟨b1, 0, none⟩), .pointer (some ⟨b2, 0, none⟩)] wx fun e w' => e = .returned (.bool (q d)) ∧ Below wx.heap.size wx w') :
  Calls Tryz.prog 52 #[v, .func (.func 71) #[] #[.pointer (some ⟨b1, 0, none⟩), .pointer (some ⟨b2, 0, none⟩)]] w fun e w' => e = .returned (.int .i64 (idxD q l)) ∧ Below w.heap.size w w' := by
 obtain ⟨p, cap, e0, hlc, hcm, hpn⟩ := sl.form l.length rfl
 subst e0
 have SL := Lib.hid sl
 unfold maxLen at hcm
 clear hpn sl
 have HQ := Lib.hid hq
 have HO := Lib.hid ho
 clear hq ho
 go_enter Tryz.func52, Tryz.ntmps52
 go_wp2
 go_loopw [8] (fun ii wr => ∃ (i : Nat), i ≤ l.length ∧ ii = .int .i64 i ∧ idxD q l = idxF q (l.drop i) i ∧ Below w.heap.size w wr) (fun i _ => l.length - (intOf i).toNat)
 case atStart => exact ⟨0, by omega, rfl, rfl, Below.refl _ _⟩
 case round =>
  obtain ⟨i, hi, rfl, hT, bel⟩ := hrel
  have HT := Lib.hid hT
  clear hT
  by_cases hlt : i < l.length
  ·obtain ⟨d, b, off, hd, rfl, hbl, _, hrg⟩ := SL.out.atN bel hlt
   have j0 : (0 : Int) ≤ (i : Int) := Int.natCast_nonneg _
   have j1 : (i : Int) < (l.length : Int) := by omega
   have HD := Lib.hid hd
   have BE := Lib.hid bel
   have HOd := Lib.hid ((HO.out.at hd).below bel)
   have HR := Lib.hid hrg
   clear hd hrg
   cases hn : q d with
   | true =>
    have HN := Lib.hid hn
    clear hn
    go_wp2_with (first | ((with_reducible refine loadN d b (off + i * 31) ?_ ?_ HR.out ?_); (next => rfl); (next => exact ⟨_, rfl, rfl⟩)) | fail)
    refine (calls_bool (HQ.out d _ HOd.out (BE.out.mono hB)) HN.out).mono ?_
    rintro e w1 ⟨rfl, hb2⟩
    have B1 := Lib.hid (belowTo bel hb2 bel.size)
    clear hb2
    go_wp2_with fail
    go_ret
    exact ⟨ret_int (by rw [HT.out, idxF_hit HD.out HN.out]), B1.out⟩
   | false =>
    have HN := Lib.hid hn
    clear hn
    go_wp2_with (first | ((with_reducible refine loadN d b (off + i * 31) ?_ ?_ HR.out ?_); (next => rfl); (next => exact ⟨_, rfl, rfl⟩)) | fail)
    refine (calls_bool (HQ.out d _ HOd.out (BE.out.mono hB)) HN.out).mono ?_
    rintro e w1 ⟨rfl, hb2⟩
    have B1 := Lib.hid (belowTo bel hb2 bel.size)
    clear hb2
    go_wp2_with fail
    go_roundw
    case rel => exact ⟨i + 1, by omega, by go_num, by rw [HT.out, idxF_miss HD.out HN.out], B1.out⟩
    case measure => simp [intOf]; omega
  ·have HE := Lib.hid (idxF_end (q := q) (rs := l) (k := i) (by omega))
   go_wp2
   go_ret
   exact ⟨ret_int (by rw [HT.out, HE.out]), bel⟩
theorem ixn_usd_lit (v : Value) (l : List Nr) (b1 b2 : Nat) (q : Nr → Bool) (B : Nat) (r : Int) (w : World) (sl : SlN w v l) (ho : NsOk w l) (hB : B ≤ w.heap.size) (hq : ∀ (d : Nr) (wx : World), NrOk wx d → Below B w wx → Calls Tryz.prog 71 #[.agg #[.int .i64 d.b.fr, .int .i64 d.b.fm, .int .i64 0, .int .i64 0, .int .i64 0, .int .i64 0, .int .i64 0, .int .i64 0, .int .i64 0, .int .i64 0, .int .i64 0, .int .i64 0, .slice d.vu.p d.vu.n d.vu.c, .slice d.vg.p d.vg.n d.vg.c, .slice d.va.p d.va.n d.va.c, .slice none 0 0, .bool false, .slice none 0 0, .slice none 0 0, .slice none 0 0, .int .i64 0, .int .i64 0, .int .u64 0, .int .i64 0, .int .i64 0, .int .i64 0, .int .i64 0, .int .i64 0, .slice none 0 0, .slice none 0 0, .bool false], .pointer (some ⟨b1, 0, none⟩), .pointer (some ⟨b2, 0, none⟩)] wx fun e w' => e = .returned (.bool (q d)) ∧ Below wx.heap.size wx w') (h : idxD q l = r) :
  Calls Tryz.prog 52 #[v, .func (.func 71) #[] #[.pointer (some ⟨b1, 0, none⟩), .pointer (some ⟨b2, 0, none⟩)]] w fun e w' => e = .returned (.int .i64 r) ∧ Below w.heap.size w w' := by
 rw [← h]; exact ixn_usd v l b1 b2 q B w sl ho hB hq
set_option maxRecDepth 100000 in
set_option maxHeartbeats 2000000 in
theorem cfx_usd1 (v : Value) (l : List Nr) (bu bc : Nat) (but cs co : Int) (x : Bool) (w : World) (sl : SlN w v l) (ho : NsOk w l) (hbu : bu < w.heap.size) (hbc : bc < w.heap.size) (m0 : w.cell? ⟨bu, 0, none⟩ = some (.int .i64 but)) (m1 : w.cell? ⟨bc, 0, none⟩ = some (.int .i64 cs)) (m2 : w.cell? ⟨bc, 1, none⟩ = some (.int .i64 co)) (hx : l.any (fun d : Nr => (!(d.b.fm == but) && d.b.us.any (fun d : Us => d.s == cs && d.o == co))) = x) : Calls Tryz.prog 70 #[v, .func (.func 71) #[] #[.pointer (some ⟨bu, 0, none⟩), .pointer (some ⟨bc, 0, none⟩)]] w fun e w' => e = .returned (.bool x) ∧ Below w.heap.size w w' := by
 rw [← idx_any] at hx
 obtain ⟨F, hF⟩ : ∃ F, idxD (fun d : Nr => (!(d.b.fm == but) && d.b.us.any (fun d : Us => d.s == cs && d.o == co))) l = F := ⟨_, rfl⟩
 rw [hF] at hx
 have HX := Lib.hid hx
 have HC := Lib.hid (ixn_usd_lit v l bu bc (fun d : Nr => (!(d.b.fm == but) && d.b.us.any (fun d : Us => d.s == cs && d.o == co))) w.heap.size F w sl ho (Nat.le_refl _) (fun d wx hok hbx => usd1_any bu bc but cs co d wx hok (Nat.lt_of_lt_of_le hbu hbx.size) (Nat.lt_of_lt_of_le hbc hbx.size) ((hbx.cell (p := ⟨bu, 0, none⟩) hbu).trans m0) ((hbx.cell (p := ⟨bc, 0, none⟩) hbc).trans m1) ((hbx.cell (p := ⟨bc, 1, none⟩) hbc).trans m2)) hF)
 clear hF hx m0 m1 m2
 go_enter Tryz.func70, Tryz.ntmps70
 go_wp2_with fail
 refine HC.out.mono ?_
 rintro e w1 ⟨rfl, hb2⟩
 go_wp2_with fail
 all_goals (go_ret; exact ⟨ret_bool (by rw [← HX.out]), hb2⟩)
set_option maxRecDepth 100000 in
set_option maxHeartbeats 2000000 in
theorem pos1_any (bc bp bs : Nat) (cs co me : Int) (d : Nr) (w : World) (hk : NrOk w d) (hbc : bc < w.heap.size) (hbp : bp < w.heap.size) (hbs : bs < w.heap.size) (m0 : w.cell? ⟨bc, 0, none⟩ = some (.int .i64 cs)) (m1 : w.cell? ⟨bc, 1, none⟩ = some (.int .i64 co)) (m2 : w.cell? ⟨bp, 0, none⟩ = some (.pointer (some ⟨bs, 0, none⟩))) (m3 : w.cell? ⟨bs, 2, none⟩ = some (.int .i64 me)) : Calls Tryz.prog 75 #[.agg #[.int .i64 d.b.fr, .int .i64 d.b.fm, .int .i64 0, .int .i64 0, .int .i64 0, .int .i64 0, .int .i64 0, .int .i64 0, .int .i64 0, .int .i64 0, .int .i64 0, .int .i64 0, .slice d.vu.p d.vu.n d.vu.c, .slice d.vg.p d.vg.n d.vg.c, .slice d.va.p d.va.n d.va.c, .slice none 0 0, .bool false, .slice none 0 0, .slice none 0 0, .slice none 0 0, .int .i64 0, .int .i64 0, .int .u64 0, .int .i64 0, .int .i64 0, .int .i64 0, .int .i64 0, .int .i64 0, .slice none 0 0, .slice none 0 0, .bool false], .pointer (some ⟨bc, 0, none⟩), .pointer (some ⟨bp, 0, none⟩)] w fun e w' => e = .returned (.bool (d.b.gs.any (fun d : Gr => (d.s == cs && d.o == co) && !(d.p == me)))) ∧ Below w.heap.size w w' := by
 have BX := Lib.hid (belowNew w (Obj.cells #[.int .i64 d.b.fr, .int .i64 d.b.fm, .int .i64 0, .int .i64 0, .int .i64 0, .int .i64 0, .int .i64 0, .int .i64 0, .int .i64 0, .int .i64 0, .int .i64 0, .int .i64 0, .slice d.vu.p d.vu.n d.vu.c, .slice d.vg.p d.vg.n d.vg.c, .slice d.va.p d.va.n d.va.c, .slice none 0 0, .bool false, .slice none 0 0, .slice none 0 0, .slice none 0 0, .int .i64 0, .int .i64 0, .int .u64 0, .int .i64 0, .int .i64 0, .int .i64 0, .int .i64 0, .int .i64 0, .slice none 0 0, .slice none 0 0, .bool false] 86))
 have HK := Lib.hid (hk.2.1.below BX.out)
 clear hk
 have n0 := (BX.out.cell (p := ⟨bc, 0, none⟩) hbc).trans m0
 have n1 := (BX.out.cell (p := ⟨bc, 1, none⟩) hbc).trans m1
 have n2 := (BX.out.cell (p := ⟨bp, 0, none⟩) hbp).trans m2
 have n3 := (BX.out.cell (p := ⟨bs, 2, none⟩) hbs).trans m3
 have gbc : bc < w.heap.size + 1 := by omega
 have gbp : bp < w.heap.size + 1 := by omega
 have gbs : bs < w.heap.size + 1 := by omega
 clear m0 m1 m2 m3
 go_enter Tryz.func75, Tryz.ntmps75
 go_wp2_with fail
 refine (cfx_pos2 _ d.b.gs bc bp bs cs co me (d.b.gs.any (fun d : Gr => ((d.s == cs && d.o == co) && !(d.p == me)))) _ HK.out (by have := BX.out.size; simp at this ⊢; omega) (by have := BX.out.size; simp at this ⊢; omega) (by have := BX.out.size; simp at this ⊢; omega) n0 n1 n2 n3 rfl).mono ?_
 rintro e w1 ⟨rfl, hb⟩
 have B1 := Lib.hid (belowTo BX.out hb (by simp))
 clear hb
 go_wp2_with fail
 go_ret
 exact ⟨ret_bool (by first | rfl | simp [*]), B1.out⟩
set_option maxRecDepth 100000 in
set_option maxHeartbeats 2000000 in
theorem ixn_pos (v : Value) (l : List Nr) (b1 b2 : Nat) (q : Nr → Bool) (B : Nat) (w : World) (sl : SlN w v l) (ho : NsOk w l) (hB : B ≤ w.heap.size) (hq : ∀ (d : Nr) (wx : World), NrOk wx d → Below B w wx → Calls Tryz.prog 75 #[.agg #[.int .i64 d.b.fr, .int .i64 d.b.fm, .int .i64 0, .int .i64 0, .int .i64 0, .int .i64 0, .int .i64 0, .int .i64 0, .int .i64 0, .int .i64 0, .int .i64 0, .int .i64 0, .slice d.vu.p d.vu.n d.vu.c, .slice d.vg.p d.vg.n d.vg.c, .slice d.va.p d.va.n d.va.c, .slice none 0 0, .bool false, .slice none 0 0, .slice none 0 0, .slice none 0 0, .int .i64 0, .int .i64 0, .int .u64 0, .int .i64 0, .int .i64 0, .int .i64 0, .int .i64 0, .int .i64 0, .slice none 0 0, .slice none 0 0, .bool false], .pointer (some ⟨b1, 0, none⟩), .pointer (some ⟨b2, 0, none⟩)] wx fun e w' => e = .returned (.bool (q d)) ∧ Below wx.heap.size wx w') :
  Calls Tryz.prog 52 #[v, .func (.func 75) #[] #[.pointer (some ⟨b1, 0, none⟩), .pointer (some ⟨b2, 0, none⟩)]] w fun e w' => e = .returned (.int .i64 (idxD q l)) ∧ Below w.heap.size w w' := by
 obtain ⟨p, cap, e0, hlc, hcm, hpn⟩ := sl.form l.length rfl
 subst e0
 have SL := Lib.hid sl
 unfold maxLen at hcm
 clear hpn sl
 have HQ := Lib.hid hq
 have HO := Lib.hid ho
 clear hq ho
 go_enter Tryz.func52, Tryz.ntmps52
 go_wp2
 go_loopw [8] (fun ii wr => ∃ (i : Nat), i ≤ l.length ∧ ii = .int .i64 i ∧ idxD q l = idxF q (l.drop i) i ∧ Below w.heap.size w wr) (fun i _ => l.length - (intOf i).toNat)
 case atStart => exact ⟨0, by omega, rfl, rfl, Below.refl _ _⟩
 case round =>
  obtain ⟨i, hi, rfl, hT, bel⟩ := hrel
  have HT := Lib.hid hT
  clear hT
  by_cases hlt : i < l.length
  ·obtain ⟨d, b, off, hd, rfl, hbl, _, hrg⟩ := SL.out.atN bel hlt
   have j0 : (0 : Int) ≤ (i : Int) := Int.natCast_nonneg _
   have j1 : (i : Int) < (l.length : Int) := by omega
   have HD := Lib.hid hd
   have BE := Lib.hid bel
   have HOd := Lib.hid ((HO.out.at hd).below bel)
   have HR := Lib.hid hrg
   clear hd hrg
   cases hn : q d with
   | true =>
    have HN := Lib.hid hn
    clear hn
    go_wp2_with (first | ((with_reducible refine loadN d b (off + i * 31) ?_ ?_ HR.out ?_); (next => rfl); (next => exact ⟨_, rfl, rfl⟩)) | fail)
    refine (calls_bool (HQ.out d _ HOd.out (BE.out.mono hB)) HN.out).mono ?_
    rintro e w1 ⟨rfl, hb2⟩
    have B1 := Lib.hid (belowTo bel hb2 bel.size)
    clear hb2
    go_wp2_with fail
    go_ret
    exact ⟨ret_int (by rw [HT.out, idxF_hit HD.out HN.out]), B1.out⟩
   | false =>
    have HN := Lib.hid hn
    clear hn
    go_wp2_with (first | ((with_reducible refine loadN d b (off + i * 31) ?_ ?_ HR.out ?_); (next => rfl); (next => exact ⟨_, rfl, rfl⟩)) | fail)
    refine (calls_bool (HQ.out d _ HOd.out (BE.out.mono hB)) HN.out).mono ?_
    rintro e w1 ⟨rfl, hb2⟩
    have B1 := Lib.hid (belowTo bel hb2 bel.size)
    clear hb2
    go_wp2_with fail
    go_roundw
    case rel => exact ⟨i + 1, by omega, by go_num, by rw [HT.out, idxF_miss HD.out HN.out], B1.out⟩
    case measure => simp [intOf]; omega
  ·have HE := Lib.hid (idxF_end (q := q) (rs := l) (k := i) (by omega))
   go_wp2
   go_ret
   exact ⟨ret_int (by rw [HT.out, HE.out]), bel⟩
theorem ixn_pos_lit (v : Value) (l : List Nr) (b1 b2 : Nat) (q : Nr → Bool) (B : Nat) (r : Int) (w : World) (sl : SlN w v l) (ho : NsOk w l) (hB : B ≤ w.heap.size) (hq : ∀ (d : Nr) (wx : World), NrOk wx d → Below B w wx → Calls Tryz.prog 75 #[.agg #[.int .i64 d.b.fr, .int .i64 d.b.fm, .int .i64 0, .int .i64 0, .int .i64 0, .int .i64 0, .int .i64 0, .int .i64 0, .int .i64 0, .int .i64 0, .int .i64 0, .int .i64 0, .slice d.vu.p d.vu.n d.vu.c, .slice d.vg.p d.vg.n d.vg.c, .slice d.va.p d.va.n d.va.c, .slice none 0 0, .bool false, .slice none 0 0, .slice none 0 0, .slice none 0 0, .int .i64 0, .int .i64 0, .int .u64 0, .int .i64 0, .int .i64 0, .int .i64 0, .int .i64 0, .int .i64 0, .slice none 0 0, .slice none 0 0, .bool false], .pointer (some ⟨b1, 0, none⟩), .pointer (some ⟨b2, 0, none⟩)] wx fun e w' => e = .returned (.bool (q d)) ∧ Below wx.heap.size wx w') (h : idxD q l = r) :
  Calls Tryz.prog 52 #[v, .func (.func 75) #[] #[.pointer (some ⟨b1, 0, none⟩), .pointer (some ⟨b2, 0, none⟩)]] w fun e w' => e = .returned (.int .i64 r) ∧ Below w.heap.size w w' := by
 rw [← h]; exact ixn_pos v l b1 b2 q B w sl ho hB hq
set_option maxRecDepth 100000 in
set_option maxHeartbeats 2000000 in
theorem cfx_pos1 (v : Value) (l : List Nr) (bc bp bs : Nat) (cs co me : Int) (x : Bool) (w : World) (sl : SlN w v l) (ho : NsOk w l) (hbc : bc < w.heap.size) (hbp : bp < w.heap.size) (hbs : bs < w.heap.size) (m0 : w.cell? ⟨bc, 0, none⟩ = some (.int .i64 cs)) (m1 : w.cell? ⟨bc, 1, none⟩ = some (.int .i64 co)) (m2 : w.cell? ⟨bp, 0, none⟩ = some (.pointer (some ⟨bs, 0, none⟩))) (m3 : w.cell? ⟨bs, 2, none⟩ = some (.int .i64 me)) (hx : l.any (fun d : Nr => (d.b.gs.any (fun d : Gr => (d.s == cs && d.o == co) && !(d.p == me)))) = x) : Calls Tryz.prog 70 #[v, .func (.func 75) #[] #[.pointer (some ⟨bc, 0, none⟩), .pointer (some ⟨bp, 0, none⟩)]] w fun e w' => e = .returned (.bool x) ∧ Below w.heap.size w w' := by
 rw [← idx_any] at hx
 obtain ⟨F, hF⟩ : ∃ F, idxD (fun d : Nr => (d.b.gs.any (fun d : Gr => (d.s == cs && d.o == co) && !(d.p == me)))) l = F := ⟨_, rfl⟩
 rw [hF] at hx
 have HX := Lib.hid hx
 have HC := Lib.hid (ixn_pos_lit v l bc bp (fun d : Nr => (d.b.gs.any (fun d : Gr => (d.s == cs && d.o == co) && !(d.p == me)))) w.heap.size F w sl ho (Nat.le_refl _) (fun d wx hok hbx => pos1_any bc bp bs cs co me d wx hok (Nat.lt_of_lt_of_le hbc hbx.size) (Nat.lt_of_lt_of_le hbp hbx.size) (Nat.lt_of_lt_of_le hbs hbx.size) ((hbx.cell (p := ⟨bc, 0, none⟩) hbc).trans m0) ((hbx.cell (p := ⟨bc, 1, none⟩) hbc).trans m1) ((hbx.cell (p := ⟨bp, 0, none⟩) hbp).trans m2) ((hbx.cell (p := ⟨bs, 2, none⟩) hbs).trans m3)) hF)
 clear hF hx m0 m1 m2 m3
 go_enter Tryz.func70, Tryz.ntmps70
 go_wp2_with fail
 refine HC.out.mono ?_
 rintro e w1 ⟨rfl, hb2⟩
 go_wp2_with fail
 all_goals (go_ret; exact ⟨ret_bool (by rw [← HX.out]), hb2⟩)
set_option maxRecDepth 100000 in
set_option maxHeartbeats 2000000 in
theorem usd_any (bs : Nat) (N D me f : Int) (sv : Sv) (S : List Nr) (cs co but : Int) (x : Bool) (w : World) (os : Own w bs [.int .i64 N, .int .i64 D, .int .i64 me, .slice sv.p sv.n sv.c, .int .i64 f] 93) (sl : SlN w (.slice sv.p sv.n sv.c) S) (ho : NsOk w S) (hx : usdB (S.map Nr.b) cs co but = x) : Calls Tryz.prog 31 #[.pointer (some ⟨bs, 0, none⟩), .agg #[.int .i64 cs, .int .i64 co], .int .i64 but] w fun e w' => e = .returned (.bool x) ∧ Below w.heap.size w w' := by
 have HX := Lib.hid (show S.any (fun d : Nr => (!(d.b.fm == but) && d.b.us.any (fun d : Us => d.s == cs && d.o == co))) = x by rw [← hx, usdB, List.any_map]; rfl)
 clear hx
 have SL := Lib.hid sl
 have HO := Lib.hid ho
 clear sl ho
 obtain ⟨cS0, cS1, cS2, cS3, cS4, fS, zS⟩ := own5 os
 go_enter Tryz.func31, Tryz.ntmps31
 have OC := Lib.hid (show Own ((w.alloc (.cells #[.int .i64 cs, .int .i64 co] 48)).alloc (.cells #[.int .i64 but] 3)) w.heap.size [.int .i64 cs, .int .i64 co] 48 from (own_at _ _ rfl).alloc _)
 have OU := Lib.hid (show Own ((w.alloc (.cells #[.int .i64 cs, .int .i64 co] 48)).alloc (.cells #[.int .i64 but] 3)) (w.heap.size + 1) [.int .i64 but] 3 from own_at _ _ (by simp))
 go_wp2_with fail
 refine (cfx_usd1 _ S (w.heap.size + 1) w.heap.size but cs co x _ (SL.out.below (((Below.refl _ _).alloc (Nat.le_refl _) _).alloc (by simp) _)) (HO.out.below (((Below.refl _ _).alloc (Nat.le_refl _) _).alloc (by simp) _)) OU.out.lt OC.out.lt (OU.out.cell (i := 0) rfl) (OC.out.cell (i := 0) rfl) (OC.out.cell (i := 1) rfl) HX.out).mono ?_
 rintro e w1 ⟨rfl, hb⟩
 replace os := ((os.alloc _).alloc _).below hb
 replace SL := Lib.hid (((SL.out.below (belowNew _ _)).below (belowNew _ _)).below hb)
 replace HO := Lib.hid (((HO.out.below (belowNew _ _)).below (belowNew _ _)).below hb)
 have oC : Own w1 w.heap.size [.int .i64 cs, .int .i64 co] 48 := ((own_at _ _ rfl).alloc _).below hb
 have oU : Own w1 (w.heap.size + 1) [.int .i64 but] 3 := (own_at _ _ (by simp)).below hb
 have bel := belowTo (((Below.refl w.heap.size w).alloc (by simp) _).alloc (by simp) _) hb (by simp; omega)
 clear hb
 clear cS0 cS1 cS2 cS3 cS4 fS zS
 obtain ⟨cS0, cS1, cS2, cS3, cS4, fS, zS⟩ := own5 os
 obtain ⟨cC0, cC1, fC, zC⟩ := own2 oC
 obtain ⟨cU0, fU, zU⟩ := own1 oU
 go_wp2_with fail
 go_ret
 exact ⟨rfl, bel⟩
set_option maxRecDepth 100000 in
set_option maxHeartbeats 2000000 in
theorem tel_any (bs : Nat) (N D me f : Int) (sv : Sv) (d : Nr) (cs co : Int) (x : Bool) (w : World) (os : Own w bs [.int .i64 N, .int .i64 D, .int .i64 me, .slice sv.p sv.n sv.c, .int .i64 f] 93) (hk : NrOk w d) (hx : telB me d.b cs co = x) : Calls Tryz.prog 30 #[.pointer (some ⟨bs, 0, none⟩), .agg #[.int .i64 d.b.fr, .int .i64 d.b.fm, .int .i64 0, .int .i64 0, .int .i64 0, .int .i64 0, .int .i64 0, .int .i64 0, .int .i64 0, .int .i64 0, .int .i64 0, .int .i64 0, .slice d.vu.p d.vu.n d.vu.c, .slice d.vg.p d.vg.n d.vg.c, .slice d.va.p d.va.n d.va.c, .slice none 0 0, .bool false, .slice none 0 0, .slice none 0 0, .slice none 0 0, .int .i64 0, .int .i64 0, .int .u64 0, .int .i64 0, .int .i64 0, .int .i64 0, .int .i64 0, .int .i64 0, .slice none 0 0, .slice none 0 0, .bool false], .agg #[.int .i64 cs, .int .i64 co]] w fun e w' => e = .returned (.bool x) ∧ Below w.heap.size w w' := by
 subst hx
 have HU := Lib.hid hk.1
 have HA := Lib.hid hk.2.2
 clear hk
 obtain ⟨xu, hxu⟩ : ∃ xu, d.b.us.any (fun d : Us => ((d.s == cs && d.o == co) && d.p == me)) = xu := ⟨_, rfl⟩
 obtain ⟨xa, hxa⟩ : ∃ xa, d.b.ks.any (fun d : Ak => d.s == cs && d.o == co && d.p == me) = xa := ⟨_, rfl⟩
 have HR := Lib.hid (show telB me d.b cs co = (xu || xa) by rw [← hxu, ← hxa]; rfl)
 have HXU := Lib.hid hxu
 have HXA := Lib.hid hxa
 clear hxu hxa
 cases xu with
 | true =>
  go_enter Tryz.func30, Tryz.ntmps30
  have bel := Below.refl w.heap.size w
  obtain ⟨cS0, cS1, cS2, cS3, cS4, fS, zS⟩ := own5 os
  go_wp2_with fail
  have oP : Own (((w.alloc (Obj.cells #[.pointer (some ⟨bs, 0, none⟩)] 82)).alloc (Obj.cells #[.int .i64 d.b.fr, .int .i64 d.b.fm, .int .i64 0, .int .i64 0, .int .i64 0, .int .i64 0, .int .i64 0, .int .i64 0, .int .i64 0, .int .i64 0, .int .i64 0, .int .i64 0, .slice d.vu.p d.vu.n d.vu.c, .slice d.vg.p d.vg.n d.vg.c, .slice d.va.p d.va.n d.va.c, .slice none 0 0, .bool false, .slice none 0 0, .slice none 0 0, .slice none 0 0, .int .i64 0, .int .i64 0, .int .u64 0, .int .i64 0, .int .i64 0, .int .i64 0, .int .i64 0, .int .i64 0, .slice none 0 0, .slice none 0 0, .bool false] 86)).alloc (Obj.cells #[.int .i64 cs, .int .i64 co] 48)) w.heap.size [.pointer (some ⟨bs, 0, none⟩)] 82 := ((own_at _ _ rfl).alloc _).alloc _
  have oN : Own (((w.alloc (Obj.cells #[.pointer (some ⟨bs, 0, none⟩)] 82)).alloc (Obj.cells #[.int .i64 d.b.fr, .int .i64 d.b.fm, .int .i64 0, .int .i64 0, .int .i64 0, .int .i64 0, .int .i64 0, .int .i64 0, .int .i64 0, .int .i64 0, .int .i64 0, .int .i64 0, .slice d.vu.p d.vu.n d.vu.c, .slice d.vg.p d.vg.n d.vg.c, .slice d.va.p d.va.n d.va.c, .slice none 0 0, .bool false, .slice none 0 0, .slice none 0 0, .slice none 0 0, .int .i64 0, .int .i64 0, .int .u64 0, .int .i64 0, .int .i64 0, .int .i64 0, .int .i64 0, .int .i64 0, .slice none 0 0, .slice none 0 0, .bool false] 86)).alloc (Obj.cells #[.int .i64 cs, .int .i64 co] 48)) (w.heap.size + 1) [.int .i64 d.b.fr, .int .i64 d.b.fm, .int .i64 0, .int .i64 0, .int .i64 0, .int .i64 0, .int .i64 0, .int .i64 0, .int .i64 0, .int .i64 0, .int .i64 0, .int .i64 0, .slice d.vu.p d.vu.n d.vu.c, .slice d.vg.p d.vg.n d.vg.c, .slice d.va.p d.va.n d.va.c, .slice none 0 0, .bool false, .slice none 0 0, .slice none 0 0, .slice none 0 0, .int .i64 0, .int .i64 0, .int .u64 0, .int .i64 0, .int .i64 0, .int .i64 0, .int .i64 0, .int .i64 0, .slice none 0 0, .slice none 0 0, .bool false] 86 := (own_at _ _ (by simp)).alloc _
  have oC : Own (((w.alloc (Obj.cells #[.pointer (some ⟨bs, 0, none⟩)] 82)).alloc (Obj.cells #[.int .i64 d.b.fr, .int .i64 d.b.fm, .int .i64 0, .int .i64 0, .int .i64 0, .int .i64 0, .int .i64 0, .int .i64 0, .int .i64 0, .int .i64 0, .int .i64 0, .int .i64 0, .slice d.vu.p d.vu.n d.vu.c, .slice d.vg.p d.vg.n d.vg.c, .slice d.va.p d.va.n d.va.c, .slice none 0 0, .bool false, .slice none 0 0, .slice none 0 0, .slice none 0 0, .int .i64 0, .int .i64 0, .int .u64 0, .int .i64 0, .int .i64 0, .int .i64 0, .int .i64 0, .int .i64 0, .slice none 0 0, .slice none 0 0, .bool false] 86)).alloc (Obj.cells #[.int .i64 cs, .int .i64 co] 48)) (w.heap.size + 1 + 1) [.int .i64 cs, .int .i64 co] 48 := own_at _ _ (by simp)
  replace bel : Below w.heap.size w (((w.alloc (Obj.cells #[.pointer (some ⟨bs, 0, none⟩)] 82)).alloc (Obj.cells #[.int .i64 d.b.fr, .int .i64 d.b.fm, .int .i64 0, .int .i64 0, .int .i64 0, .int .i64 0, .int .i64 0, .int .i64 0, .int .i64 0, .int .i64 0, .int .i64 0, .int .i64 0, .slice d.vu.p d.vu.n d.vu.c, .slice d.vg.p d.vg.n d.vg.c, .slice d.va.p d.va.n d.va.c, .slice none 0 0, .bool false, .slice none 0 0, .slice none 0 0, .slice none 0 0, .int .i64 0, .int .i64 0, .int .u64 0, .int .i64 0, .int .i64 0, .int .i64 0, .int .i64 0, .int .i64 0, .slice none 0 0, .slice none 0 0, .bool false] 86)).alloc (Obj.cells #[.int .i64 cs, .int .i64 co] 48)) := ((bel.alloc (by simp) _).alloc (by simp) _).alloc (by simp; omega) _
  have os2 := os.below bel
  replace HU := Lib.hid (HU.out.below bel)
  replace HA := Lib.hid (HA.out.below bel)
  clear cS0 cS1 cS2 cS3 cS4 fS zS
  clear os
  have os := os2
  clear os2
  generalize (((w.alloc (Obj.cells #[.pointer (some ⟨bs, 0, none⟩)] 82)).alloc (Obj.cells #[.int .i64 d.b.fr, .int .i64 d.b.fm, .int .i64 0, .int .i64 0, .int .i64 0, .int .i64 0, .int .i64 0, .int .i64 0, .int .i64 0, .int .i64 0, .int .i64 0, .int .i64 0, .slice d.vu.p d.vu.n d.vu.c, .slice d.vg.p d.vg.n d.vg.c, .slice d.va.p d.va.n d.va.c, .slice none 0 0, .bool false, .slice none 0 0, .slice none 0 0, .slice none 0 0, .int .i64 0, .int .i64 0, .int .u64 0, .int .i64 0, .int .i64 0, .int .i64 0, .int .i64 0, .int .i64 0, .slice none 0 0, .slice none 0 0, .bool false] 86)).alloc (Obj.cells #[.int .i64 cs, .int .i64 co] 48)) = wz at oP oN oC os bel HU HA ⊢
  obtain ⟨cS0, cS1, cS2, cS3, cS4, fS, zS⟩ := own5 os
  obtain ⟨cP0, fP, zP⟩ := own1 oP
  obtain ⟨cN0, cN1, cN12, cN13, cN14, fN, zN⟩ := own_nr (r := d) oN
  obtain ⟨cC0, cC1, fC, zC⟩ := own2 oC
  go_wp2_with fail
  have pS0 := fun x : Past wz => (os.past x).cell (i := 0) rfl
  have pS1 := fun x : Past wz => (os.past x).cell (i := 1) rfl
  have pS2 := fun x : Past wz => (os.past x).cell (i := 2) rfl
  have pS3 := fun x : Past wz => (os.past x).cell (i := 3) rfl
  have pS4 := fun x : Past wz => (os.past x).cell (i := 4) rfl
  have pP0 := fun x : Past wz => (oP.past x).cell (i := 0) rfl
  have pN0 := fun x : Past wz => (oN.past x).cell (i := 0) rfl
  have pN1 := fun x : Past wz => (oN.past x).cell (i := 1) rfl
  have pN12 := fun x : Past wz => (oN.past x).cell (i := 12) rfl
  have pN13 := fun x : Past wz => (oN.past x).cell (i := 13) rfl
  have pN14 := fun x : Past wz => (oN.past x).cell (i := 14) rfl
  have pC0 := fun x : Past wz => (oC.past x).cell (i := 0) rfl
  have pC1 := fun x : Past wz => (oC.past x).cell (i := 1) rfl
  have pU := fun x : Past wz => HU.out.below x.h
  have pA := fun x : Past wz => HA.out.below x.h
  have pP := fun x : Past wz => oP.below x.h
  have pC := fun x : Past wz => oC.below x.h
  have pS := fun x : Past wz => os.below x.h
  refine wp_region_past (by kernel_rfl) (by kernel_rfl) ?_
  repeat (go_big_quiet_step ((first | (go_at_call 67; exact calls_past (cfx_tel1 _ d.b.us (w.heap.size + 1 + 1) w.heap.size bs cs co me true _ (pU _) (pC _).lt (pP _).lt (pS _).lt ((pC _).cell (i := 0) rfl) ((pC _).cell (i := 1) rfl) ((pP _).cell (i := 0) rfl) ((pS _).cell (i := 2) rfl) HXU.out)))))
  refine wpQuiet_nil ?_
  rintro _ ⟨x, rfl⟩
  replace bel : Below w.heap.size w (past wz x) := bel.trans (x.h.mono bel.size)
  clear pS0 pS1 pS2 pS3 pS4
  clear pP0
  clear pN0 pN1 pN12 pN13 pN14
  clear pC0 pC1
  clear cS0 cS1 cS2 cS3 cS4 fS zS cP0 fP zP cN0 cN1 cN12 cN13 cN14 fN zN cC0 cC1 fC zC
  replace os := os.past x
  replace oP := oP.past x
  replace oN := oN.past x
  replace oC := oC.past x
  replace HU := Lib.hid (HU.out.below x.h)
  replace HA := Lib.hid (HA.out.below x.h)
  generalize past wz x = w2 at os oP oN oC HU HA bel ⊢
  obtain ⟨cS0, cS1, cS2, cS3, cS4, fS, zS⟩ := own5 os
  obtain ⟨cP0, fP, zP⟩ := own1 oP
  obtain ⟨cN0, cN1, cN12, cN13, cN14, fN, zN⟩ := own_nr (r := d) oN
  obtain ⟨cC0, cC1, fC, zC⟩ := own2 oC
  go_wp2_with fail
  go_ret
  exact ⟨ret_bool (by rw [HR.out]; simp), bel⟩
 | false =>
  go_enter Tryz.func30, Tryz.ntmps30
  have bel := Below.refl w.heap.size w
  obtain ⟨cS0, cS1, cS2, cS3, cS4, fS, zS⟩ := own5 os
  go_wp2_with fail
  have oP : Own (((w.alloc (Obj.cells #[.pointer (some ⟨bs, 0, none⟩)] 82)).alloc (Obj.cells #[.int .i64 d.b.fr, .int .i64 d.b.fm, .int .i64 0, .int .i64 0, .int .i64 0, .int .i64 0, .int .i64 0, .int .i64 0, .int .i64 0, .int .i64 0, .int .i64 0, .int .i64 0, .slice d.vu.p d.vu.n d.vu.c, .slice d.vg.p d.vg.n d.vg.c, .slice d.va.p d.va.n d.va.c, .slice none 0 0, .bool false, .slice none 0 0, .slice none 0 0, .slice none 0 0, .int .i64 0, .int .i64 0, .int .u64 0, .int .i64 0, .int .i64 0, .int .i64 0, .int .i64 0, .int .i64 0, .slice none 0 0, .slice none 0 0, .bool false] 86)).alloc (Obj.cells #[.int .i64 cs, .int .i64 co] 48)) w.heap.size [.pointer (some ⟨bs, 0, none⟩)] 82 := ((own_at _ _ rfl).alloc _).alloc _
  have oN : Own (((w.alloc (Obj.cells #[.pointer (some ⟨bs, 0, none⟩)] 82)).alloc (Obj.cells #[.int .i64 d.b.fr, .int .i64 d.b.fm, .int .i64 0, .int .i64 0, .int .i64 0, .int .i64 0, .int .i64 0, .int .i64 0, .int .i64 0, .int .i64 0, .int .i64 0, .int .i64 0, .slice d.vu.p d.vu.n d.vu.c, .slice d.vg.p d.vg.n d.vg.c, .slice d.va.p d.va.n d.va.c, .slice none 0 0, .bool false, .slice none 0 0, .slice none 0 0, .slice none 0 0, .int .i64 0, .int .i64 0, .int .u64 0, .int .i64 0, .int .i64 0, .int .i64 0, .int .i64 0, .int .i64 0, .slice none 0 0, .slice none 0 0, .bool false] 86)).alloc (Obj.cells #[.int .i64 cs, .int .i64 co] 48)) (w.heap.size + 1) [.int .i64 d.b.fr, .int .i64 d.b.fm, .int .i64 0, .int .i64 0, .int .i64 0, .int .i64 0, .int .i64 0, .int .i64 0, .int .i64 0, .int .i64 0, .int .i64 0, .int .i64 0, .slice d.vu.p d.vu.n d.vu.c, .slice d.vg.p d.vg.n d.vg.c, .slice d.va.p d.va.n d.va.c, .slice none 0 0, .bool false, .slice none 0 0, .slice none 0 0, .slice none 0 0, .int .i64 0, .int .i64 0, .int .u64 0, .int .i64 0, .int .i64 0, .int .i64 0, .int .i64 0, .int .i64 0, .slice none 0 0, .slice none 0 0, .bool false] 86 := (own_at _ _ (by simp)).alloc _
  have oC : Own (((w.alloc (Obj.cells #[.pointer (some ⟨bs, 0, none⟩)] 82)).alloc (Obj.cells #[.int .i64 d.b.fr, .int .i64 d.b.fm, .int .i64 0, .int .i64 0, .int .i64 0, .int .i64 0, .int .i64 0, .int .i64 0, .int .i64 0, .int .i64 0, .int .i64 0, .int .i64 0, .slice d.vu.p d.vu.n d.vu.c, .slice d.vg.p d.vg.n d.vg.c, .slice d.va.p d.va.n d.va.c, .slice none 0 0, .bool false, .slice none 0 0, .slice none 0 0, .slice none 0 0, .int .i64 0, .int .i64 0, .int .u64 0, .int .i64 0, .int .i64 0, .int .i64 0, .int .i64 0, .int .i64 0, .slice none 0 0, .slice none 0 0, .bool false] 86)).alloc (Obj.cells #[.int .i64 cs, .int .i64 co] 48)) (w.heap.size + 1 + 1) [.int .i64 cs, .int .i64 co] 48 := own_at _ _ (by simp)
  replace bel : Below w.heap.size w (((w.alloc (Obj.cells #[.pointer (some ⟨bs, 0, none⟩)] 82)).alloc (Obj.cells #[.int .i64 d.b.fr, .int .i64 d.b.fm, .int .i64 0, .int .i64 0, .int .i64 0, .int .i64 0, .int .i64 0, .int .i64 0, .int .i64 0, .int .i64 0, .int .i64 0, .int .i64 0, .slice d.vu.p d.vu.n d.vu.c, .slice d.vg.p d.vg.n d.vg.c, .slice d.va.p d.va.n d.va.c, .slice none 0 0, .bool false, .slice none 0 0, .slice none 0 0, .slice none 0 0, .int .i64 0, .int .i64 0, .int .u64 0, .int .i64 0, .int .i64 0, .int .i64 0, .int .i64 0, .int .i64 0, .slice none 0 0, .slice none 0 0, .bool false] 86)).alloc (Obj.cells #[.int .i64 cs, .int .i64 co] 48)) := ((bel.alloc (by simp) _).alloc (by simp) _).alloc (by simp; omega) _
  have os2 := os.below bel
  replace HU := Lib.hid (HU.out.below bel)
  replace HA := Lib.hid (HA.out.below bel)
  clear cS0 cS1 cS2 cS3 cS4 fS zS
  clear os
  have os := os2
  clear os2
  generalize (((w.alloc (Obj.cells #[.pointer (some ⟨bs, 0, none⟩)] 82)).alloc (Obj.cells #[.int .i64 d.b.fr, .int .i64 d.b.fm, .int .i64 0, .int .i64 0, .int .i64 0, .int .i64 0, .int .i64 0, .int .i64 0, .int .i64 0, .int .i64 0, .int .i64 0, .int .i64 0, .slice d.vu.p d.vu.n d.vu.c, .slice d.vg.p d.vg.n d.vg.c, .slice d.va.p d.va.n d.va.c, .slice none 0 0, .bool false, .slice none 0 0, .slice none 0 0, .slice none 0 0, .int .i64 0, .int .i64 0, .int .u64 0, .int .i64 0, .int .i64 0, .int .i64 0, .int .i64 0, .int .i64 0, .slice none 0 0, .slice none 0 0, .bool false] 86)).alloc (Obj.cells #[.int .i64 cs, .int .i64 co] 48)) = wz at oP oN oC os bel HU HA ⊢
  obtain ⟨cS0, cS1, cS2, cS3, cS4, fS, zS⟩ := own5 os
  obtain ⟨cP0, fP, zP⟩ := own1 oP
  obtain ⟨cN0, cN1, cN12, cN13, cN14, fN, zN⟩ := own_nr (r := d) oN
  obtain ⟨cC0, cC1, fC, zC⟩ := own2 oC
  go_wp2_with fail
  have pS0 := fun x : Past wz => (os.past x).cell (i := 0) rfl
  have pS1 := fun x : Past wz => (os.past x).cell (i := 1) rfl
  have pS2 := fun x : Past wz => (os.past x).cell (i := 2) rfl
  have pS3 := fun x : Past wz => (os.past x).cell (i := 3) rfl
  have pS4 := fun x : Past wz => (os.past x).cell (i := 4) rfl
  have pP0 := fun x : Past wz => (oP.past x).cell (i := 0) rfl
  have pN0 := fun x : Past wz => (oN.past x).cell (i := 0) rfl
  have pN1 := fun x : Past wz => (oN.past x).cell (i := 1) rfl
  have pN12 := fun x : Past wz => (oN.past x).cell (i := 12) rfl
  have pN13 := fun x : Past wz => (oN.past x).cell (i := 13) rfl
  have pN14 := fun x : Past wz => (oN.past x).cell (i := 14) rfl
  have pC0 := fun x : Past wz => (oC.past x).cell (i := 0) rfl
  have pC1 := fun x : Past wz => (oC.past x).cell (i := 1) rfl
  have pU := fun x : Past wz => HU.out.below x.h
  have pA := fun x : Past wz => HA.out.below x.h
  have pP := fun x : Past wz => oP.below x.h
  have pC := fun x : Past wz => oC.below x.h
  have pS := fun x : Past wz => os.below x.h
  refine wp_region_past (by kernel_rfl) (by kernel_rfl) ?_
  repeat (go_big_quiet_step ((first | (go_at_call 67; exact calls_past (cfx_tel1 _ d.b.us (w.heap.size + 1 + 1) w.heap.size bs cs co me false _ (pU _) (pC _).lt (pP _).lt (pS _).lt ((pC _).cell (i := 0) rfl) ((pC _).cell (i := 1) rfl) ((pP _).cell (i := 0) rfl) ((pS _).cell (i := 2) rfl) HXU.out)) | (go_at_call 69; exact calls_past (con_any _ d.b.ks ⟨cs, co, me⟩ xa _ (pA _) HXA.out)))))
  refine wpQuiet_nil ?_
  rintro _ ⟨x, rfl⟩
  replace bel : Below w.heap.size w (past wz x) := bel.trans (x.h.mono bel.size)
  clear pS0 pS1 pS2 pS3 pS4
  clear pP0
  clear pN0 pN1 pN12 pN13 pN14
  clear pC0 pC1
  clear cS0 cS1 cS2 cS3 cS4 fS zS cP0 fP zP cN0 cN1 cN12 cN13 cN14 fN zN cC0 cC1 fC zC
  replace os := os.past x
  replace oP := oP.past x
  replace oN := oN.past x
  replace oC := oC.past x
  replace HU := Lib.hid (HU.out.below x.h)
  replace HA := Lib.hid (HA.out.below x.h)
  generalize past wz x = w2 at os oP oN oC HU HA bel ⊢
  obtain ⟨cS0, cS1, cS2, cS3, cS4, fS, zS⟩ := own5 os
  obtain ⟨cP0, fP, zP⟩ := own1 oP
  obtain ⟨cN0, cN1, cN12, cN13, cN14, fN, zN⟩ := own_nr (r := d) oN
  obtain ⟨cC0, cC1, fC, zC⟩ := own2 oC
  go_wp2_with fail
  go_ret
  exact ⟨ret_bool (by rw [HR.out]; simp), bel⟩
end Go.Proofs.YtmopiifamopidaaGreat
end
section
namespace Go.Proofs.YtmopiifamopidaaGreat
open Go.RowKit
set_option maxRecDepth 100000 in
set_option maxHeartbeats 2000000 in
theorem pos_any (bs : Nat) (N D me f : Int) (sv : Sv) (S : List Nr) (vu vg va : Value) (us : List Us) (gs : List Gr) (d : Nr) (cs co : Int) (x : Bool) (w : World) (os : Own w bs [.int .i64 N, .int .i64 D, .int .i64 me, .slice sv.p sv.n sv.c, .int .i64 f] 93) (sl : SlN w (.slice sv.p sv.n sv.c) S) (ho : NsOk w S) (su : SlU w vu us) (sg : SlG w vg gs) (hk : NrOk w d) (hx : posB me (S.map Nr.b) us gs d.b cs co = x) : Calls Tryz.prog 35 #[.pointer (some ⟨bs, 0, none⟩), .agg #[vu, vg, va], .agg #[.int .i64 d.b.fr, .int .i64 d.b.fm, .int .i64 0, .int .i64 0, .int .i64 0, .int .i64 0, .int .i64 0, .int .i64 0, .int .i64 0, .int .i64 0, .int .i64 0, .int .i64 0, .slice d.vu.p d.vu.n d.vu.c, .slice d.vg.p d.vg.n d.vg.c, .slice d.va.p d.va.n d.va.c, .slice none 0 0, .bool false, .slice none 0 0, .slice none 0 0, .slice none 0 0, .int .i64 0, .int .i64 0, .int .u64 0, .int .i64 0, .int .i64 0, .int .i64 0, .int .i64 0, .int .i64 0, .slice none 0 0, .slice none 0 0, .bool false], .agg #[.int .i64 cs, .int .i64 co]] w fun e w' => e = .returned (.bool x) ∧ Below w.heap.size w w' := by
 subst hx
 have SU := Lib.hid su
 have SG := Lib.hid sg
 have SL := Lib.hid sl
 have HO := Lib.hid ho
 have KU := Lib.hid hk.1
 have KG := Lib.hid hk.2.1
 clear su sg sl ho hk
 obtain ⟨x1, h1⟩ : ∃ x1, bsyB cs us gs = x1 := ⟨_, rfl⟩
 obtain ⟨x2, h2⟩ : ∃ x2, bsyB cs d.b.us d.b.gs = x2 := ⟨_, rfl⟩
 obtain ⟨x3, h3⟩ : ∃ x3, S.any (fun d : Nr => (d.b.gs.any (fun d : Gr => (d.s == cs && d.o == co) && !(d.p == me)))) = x3 := ⟨_, rfl⟩
 have HR := Lib.hid (show posB me (S.map Nr.b) us gs d.b cs co = (!x1 && (!x2 && !x3)) by rw [← h1, ← h2, ← h3, posB, List.any_map]; rfl)
 have H1 := Lib.hid h1
 have H2 := Lib.hid h2
 have H3 := Lib.hid h3
 clear h1 h2 h3
 cases x1 with
 | true =>
  go_enter Tryz.func35, Tryz.ntmps35
  have oS := os
  obtain ⟨cS0, cS1, cS2, cS3, cS4, fS, zS⟩ := own5 oS
  have bel := Below.refl w.heap.size w
  go_wp2_with fail
  have oP : Own ((((w.alloc (Obj.cells #[.pointer (some ⟨bs, 0, none⟩)] 82)).alloc (Obj.cells #[vu, vg, va] 43)).alloc (Obj.cells #[.int .i64 d.b.fr, .int .i64 d.b.fm, .int .i64 0, .int .i64 0, .int .i64 0, .int .i64 0, .int .i64 0, .int .i64 0, .int .i64 0, .int .i64 0, .int .i64 0, .int .i64 0, .slice d.vu.p d.vu.n d.vu.c, .slice d.vg.p d.vg.n d.vg.c, .slice d.va.p d.va.n d.va.c, .slice none 0 0, .bool false, .slice none 0 0, .slice none 0 0, .slice none 0 0, .int .i64 0, .int .i64 0, .int .u64 0, .int .i64 0, .int .i64 0, .int .i64 0, .int .i64 0, .int .i64 0, .slice none 0 0, .slice none 0 0, .bool false] 86)).alloc (Obj.cells #[.int .i64 cs, .int .i64 co] 48)) (w.heap.size) [.pointer (some ⟨bs, 0, none⟩)] 82 := ((((own_at _ _ rfl).alloc _).alloc _).alloc _)
  have oT : Own ((((w.alloc (Obj.cells #[.pointer (some ⟨bs, 0, none⟩)] 82)).alloc (Obj.cells #[vu, vg, va] 43)).alloc (Obj.cells #[.int .i64 d.b.fr, .int .i64 d.b.fm, .int .i64 0, .int .i64 0, .int .i64 0, .int .i64 0, .int .i64 0, .int .i64 0, .int .i64 0, .int .i64 0, .int .i64 0, .int .i64 0, .slice d.vu.p d.vu.n d.vu.c, .slice d.vg.p d.vg.n d.vg.c, .slice d.va.p d.va.n d.va.c, .slice none 0 0, .bool false, .slice none 0 0, .slice none 0 0, .slice none 0 0, .int .i64 0, .int .i64 0, .int .u64 0, .int .i64 0, .int .i64 0, .int .i64 0, .int .i64 0, .int .i64 0, .slice none 0 0, .slice none 0 0, .bool false] 86)).alloc (Obj.cells #[.int .i64 cs, .int .i64 co] 48)) (w.heap.size + 1) [vu, vg, va] 43 := (((own_at _ _ (by simp)).alloc _).alloc _)
  have oN : Own ((((w.alloc (Obj.cells #[.pointer (some ⟨bs, 0, none⟩)] 82)).alloc (Obj.cells #[vu, vg, va] 43)).alloc (Obj.cells #[.int .i64 d.b.fr, .int .i64 d.b.fm, .int .i64 0, .int .i64 0, .int .i64 0, .int .i64 0, .int .i64 0, .int .i64 0, .int .i64 0, .int .i64 0, .int .i64 0, .int .i64 0, .slice d.vu.p d.vu.n d.vu.c, .slice d.vg.p d.vg.n d.vg.c, .slice d.va.p d.va.n d.va.c, .slice none 0 0, .bool false, .slice none 0 0, .slice none 0 0, .slice none 0 0, .int .i64 0, .int .i64 0, .int .u64 0, .int .i64 0, .int .i64 0, .int .i64 0, .int .i64 0, .int .i64 0, .slice none 0 0, .slice none 0 0, .bool false] 86)).alloc (Obj.cells #[.int .i64 cs, .int .i64 co] 48)) (w.heap.size + 1 + 1) [.int .i64 d.b.fr, .int .i64 d.b.fm, .int .i64 0, .int .i64 0, .int .i64 0, .int .i64 0, .int .i64 0, .int .i64 0, .int .i64 0, .int .i64 0, .int .i64 0, .int .i64 0, .slice d.vu.p d.vu.n d.vu.c, .slice d.vg.p d.vg.n d.vg.c, .slice d.va.p d.va.n d.va.c, .slice none 0 0, .bool false, .slice none 0 0, .slice none 0 0, .slice none 0 0, .int .i64 0, .int .i64 0, .int .u64 0, .int .i64 0, .int .i64 0, .int .i64 0, .int .i64 0, .int .i64 0, .slice none 0 0, .slice none 0 0, .bool false] 86 := ((own_at _ _ (by simp)).alloc _)
  have oC : Own ((((w.alloc (Obj.cells #[.pointer (some ⟨bs, 0, none⟩)] 82)).alloc (Obj.cells #[vu, vg, va] 43)).alloc (Obj.cells #[.int .i64 d.b.fr, .int .i64 d.b.fm, .int .i64 0, .int .i64 0, .int .i64 0, .int .i64 0, .int .i64 0, .int .i64 0, .int .i64 0, .int .i64 0, .int .i64 0, .int .i64 0, .slice d.vu.p d.vu.n d.vu.c, .slice d.vg.p d.vg.n d.vg.c, .slice d.va.p d.va.n d.va.c, .slice none 0 0, .bool false, .slice none 0 0, .slice none 0 0, .slice none 0 0, .int .i64 0, .int .i64 0, .int .u64 0, .int .i64 0, .int .i64 0, .int .i64 0, .int .i64 0, .int .i64 0, .slice none 0 0, .slice none 0 0, .bool false] 86)).alloc (Obj.cells #[.int .i64 cs, .int .i64 co] 48)) (w.heap.size + 1 + 1 + 1) [.int .i64 cs, .int .i64 co] 48 := (own_at _ _ (by simp))
  have hbx : Below w.heap.size w ((((w.alloc (Obj.cells #[.pointer (some ⟨bs, 0, none⟩)] 82)).alloc (Obj.cells #[vu, vg, va] 43)).alloc (Obj.cells #[.int .i64 d.b.fr, .int .i64 d.b.fm, .int .i64 0, .int .i64 0, .int .i64 0, .int .i64 0, .int .i64 0, .int .i64 0, .int .i64 0, .int .i64 0, .int .i64 0, .int .i64 0, .slice d.vu.p d.vu.n d.vu.c, .slice d.vg.p d.vg.n d.vg.c, .slice d.va.p d.va.n d.va.c, .slice none 0 0, .bool false, .slice none 0 0, .slice none 0 0, .slice none 0 0, .int .i64 0, .int .i64 0, .int .u64 0, .int .i64 0, .int .i64 0, .int .i64 0, .int .i64 0, .int .i64 0, .slice none 0 0, .slice none 0 0, .bool false] 86)).alloc (Obj.cells #[.int .i64 cs, .int .i64 co] 48)) := ((((Below.refl _ _).alloc (by simp) _).alloc (by simp) _).alloc (by simp; omega) _).alloc (by simp; omega) _
  replace bel := belowTo bel hbx (by simp)
  replace oS := oS.below hbx
  replace SU := Lib.hid (SU.out.below hbx)
  replace SG := Lib.hid (SG.out.below hbx)
  replace SL := Lib.hid (SL.out.below hbx)
  replace HO := Lib.hid (HO.out.below hbx)
  replace KU := Lib.hid (KU.out.below hbx)
  replace KG := Lib.hid (KG.out.below hbx)
  clear hbx cS0 cS1 cS2 cS3 cS4 fS zS
  generalize ((((w.alloc (Obj.cells #[.pointer (some ⟨bs, 0, none⟩)] 82)).alloc (Obj.cells #[vu, vg, va] 43)).alloc (Obj.cells #[.int .i64 d.b.fr, .int .i64 d.b.fm, .int .i64 0, .int .i64 0, .int .i64 0, .int .i64 0, .int .i64 0, .int .i64 0, .int .i64 0, .int .i64 0, .int .i64 0, .int .i64 0, .slice d.vu.p d.vu.n d.vu.c, .slice d.vg.p d.vg.n d.vg.c, .slice d.va.p d.va.n d.va.c, .slice none 0 0, .bool false, .slice none 0 0, .slice none 0 0, .slice none 0 0, .int .i64 0, .int .i64 0, .int .u64 0, .int .i64 0, .int .i64 0, .int .i64 0, .int .i64 0, .int .i64 0, .slice none 0 0, .slice none 0 0, .bool false] 86)).alloc (Obj.cells #[.int .i64 cs, .int .i64 co] 48)) = wz at oS oP oT oN oC bel SU SG SL HO KU KG ⊢
  obtain ⟨cS0, cS1, cS2, cS3, cS4, fS, zS⟩ := own5 oS
  obtain ⟨cP0, fP, zP⟩ := own1 oP
  obtain ⟨cT0, cT1, cT2, fT, zT⟩ := own3 oT
  obtain ⟨cN0, cN1, cN12, cN13, cN14, fN, zN⟩ := own_nr (r := d) oN
  obtain ⟨cC0, cC1, fC, zC⟩ := own2 oC
  go_wp2_with fail
  refine (busy_lit _ _ _ us gs cs _ SU.out SG.out true H1.out).mono ?_
  rintro e w1 ⟨rfl, hb⟩
  replace oS := oS.below hb
  replace oP := oP.below hb
  replace oT := oT.below hb
  replace oN := oN.below hb
  replace oC := oC.below hb
  replace SU := Lib.hid (SU.out.below hb)
  replace SG := Lib.hid (SG.out.below hb)
  replace SL := Lib.hid (SL.out.below hb)
  replace HO := Lib.hid (HO.out.below hb)
  replace KU := Lib.hid (KU.out.below hb)
  replace KG := Lib.hid (KG.out.below hb)
  replace bel := belowTo bel hb (by exact bel.size)
  clear hb
  clear cS0 cS1 cS2 cS3 cS4 fS zS cP0 fP zP cT0 cT1 cT2 fT zT cN0 cN1 cN12 cN13 cN14 fN zN cC0 cC1 fC zC
  obtain ⟨cS0, cS1, cS2, cS3, cS4, fS, zS⟩ := own5 oS
  obtain ⟨cP0, fP, zP⟩ := own1 oP
  obtain ⟨cT0, cT1, cT2, fT, zT⟩ := own3 oT
  obtain ⟨cN0, cN1, cN12, cN13, cN14, fN, zN⟩ := own_nr (r := d) oN
  obtain ⟨cC0, cC1, fC, zC⟩ := own2 oC
  go_wp2_with fail
  all_goals (go_ret; exact ⟨ret_bool (by rw [HR.out]; first | rfl | simp), bel⟩)
 | false =>
  cases x2 with
  | true =>
   go_enter Tryz.func35, Tryz.ntmps35
   have oS := os
   obtain ⟨cS0, cS1, cS2, cS3, cS4, fS, zS⟩ := own5 oS
   have bel := Below.refl w.heap.size w
   go_wp2_with fail
   have oP : Own ((((w.alloc (Obj.cells #[.pointer (some ⟨bs, 0, none⟩)] 82)).alloc (Obj.cells #[vu, vg, va] 43)).alloc (Obj.cells #[.int .i64 d.b.fr, .int .i64 d.b.fm, .int .i64 0, .int .i64 0, .int .i64 0, .int .i64 0, .int .i64 0, .int .i64 0, .int .i64 0, .int .i64 0, .int .i64 0, .int .i64 0, .slice d.vu.p d.vu.n d.vu.c, .slice d.vg.p d.vg.n d.vg.c, .slice d.va.p d.va.n d.va.c, .slice none 0 0, .bool false, .slice none 0 0, .slice none 0 0, .slice none 0 0, .int .i64 0, .int .i64 0, .int .u64 0, .int .i64 0, .int .i64 0, .int .i64 0, .int .i64 0, .int .i64 0, .slice none 0 0, .slice none 0 0, .bool false] 86)).alloc (Obj.cells #[.int .i64 cs, .int .i64 co] 48)) (w.heap.size) [.pointer (some ⟨bs, 0, none⟩)] 82 := ((((own_at _ _ rfl).alloc _).alloc _).alloc _)
   have oT : Own ((((w.alloc (Obj.cells #[.pointer (some ⟨bs, 0, none⟩)] 82)).alloc (Obj.cells #[vu, vg, va] 43)).alloc (Obj.cells #[.int .i64 d.b.fr, .int .i64 d.b.fm, .int .i64 0, .int .i64 0, .int .i64 0, .int .i64 0, .int .i64 0, .int .i64 0, .int .i64 0, .int .i64 0, .int .i64 0, .int .i64 0, .slice d.vu.p d.vu.n d.vu.c, .slice d.vg.p d.vg.n d.vg.c, .slice d.va.p d.va.n d.va.c, .slice none 0 0, .bool false, .slice none 0 0, .slice none 0 0, .slice none 0 0, .int .i64 0, .int .i64 0, .int .u64 0, .int .i64 0, .int .i64 0, .int .i64 0, .int .i64 0, .int .i64 0, .slice none 0 0, .slice none 0 0, .bool false] 86)).alloc (Obj.cells #[.int .i64 cs, .int .i64 co] 48)) (w.heap.size + 1) [vu, vg, va] 43 := (((own_at _ _ (by simp)).alloc _).alloc _)
   have oN : Own ((((w.alloc (Obj.cells #[.pointer (some ⟨bs, 0, none⟩)] 82)).alloc (Obj.cells #[vu, vg, va] 43)).alloc (Obj.cells #[.int .i64 d.b.fr, .int .i64 d.b.fm, .int .i64 0, .int .i64 0, .int .i64 0, .int .i64 0, .int .i64 0, .int .i64 0, .int .i64 0, .int .i64 0, .int .i64 0, .int .i64 0, .slice d.vu.p d.vu.n d.vu.c, .slice d.vg.p d.vg.n d.vg.c, .slice d.va.p d.va.n d.va.c, .slice none 0 0, .bool false, .slice none 0 0, .slice none 0 0, .slice none 0 0, .int .i64 0, .int .i64 0, .int .u64 0, .int .i64 0, .int .i64 0, .int .i64 0, .int .i64 0, .int .i64 0, .slice none 0 0, .slice none 0 0, .bool false] 86)).alloc (Obj.cells #[.int .i64 cs, .int .i64 co] 48)) (w.heap.size + 1 + 1) [.int .i64 d.b.fr, .int .i64 d.b.fm, .int .i64 0, .int .i64 0, .int .i64 0, .int .i64 0, .int .i64 0, .int .i64 0, .int .i64 0, .int .i64 0, .int .i64 0, .int .i64 0, .slice d.vu.p d.vu.n d.vu.c, .slice d.vg.p d.vg.n d.vg.c, .slice d.va.p d.va.n d.va.c, .slice none 0 0, .bool false, .slice none 0 0, .slice none 0 0, .slice none 0 0, .int .i64 0, .int .i64 0, .int .u64 0, .int .i64 0, .int .i64 0, .int .i64 0, .int .i64 0, .int .i64 0, .slice none 0 0, .slice none 0 0, .bool false] 86 := ((own_at _ _ (by simp)).alloc _)
   have oC : Own ((((w.alloc (Obj.cells #[.pointer (some ⟨bs, 0, none⟩)] 82)).alloc (Obj.cells #[vu, vg, va] 43)).alloc (Obj.cells #[.int .i64 d.b.fr, .int .i64 d.b.fm, .int .i64 0, .int .i64 0, .int .i64 0, .int .i64 0, .int .i64 0, .int .i64 0, .int .i64 0, .int .i64 0, .int .i64 0, .int .i64 0, .slice d.vu.p d.vu.n d.vu.c, .slice d.vg.p d.vg.n d.vg.c, .slice d.va.p d.va.n d.va.c, .slice none 0 0, .bool false, .slice none 0 0, .slice none 0 0, .slice none 0 0, .int .i64 0, .int .i64 0, .int .u64 0, .int .i64 0, .int .i64 0, .int .i64 0, .int .i64 0, .int .i64 0, .slice none 0 0, .slice none 0 0, .bool false] 86)).alloc (Obj.cells #[.int .i64 cs, .int .i64 co] 48)) (w.heap.size + 1 + 1 + 1) [.int .i64 cs, .int .i64 co] 48 := (own_at _ _ (by simp))
   have hbx : Below w.heap.size w ((((w.alloc (Obj.cells #[.pointer (some ⟨bs, 0, none⟩)] 82)).alloc (Obj.cells #[vu, vg, va] 43)).alloc (Obj.cells #[.int .i64 d.b.fr, .int .i64 d.b.fm, .int .i64 0, .int .i64 0, .int .i64 0, .int .i64 0, .int .i64 0, .int .i64 0, .int .i64 0, .int .i64 0, .int .i64 0, .int .i64 0, .slice d.vu.p d.vu.n d.vu.c, .slice d.vg.p d.vg.n d.vg.c, .slice d.va.p d.va.n d.va.c, .slice none 0 0, .bool false, .slice none 0 0, .slice none 0 0, .slice none 0 0, .int .i64 0, .int .i64 0, .int .u64 0, .int .i64 0, .int .i64 0, .int .i64 0, .int .i64 0, .int .i64 0, .slice none 0 0, .slice none 0 0, .bool false] 86)).alloc (Obj.cells #[.int .i64 cs, .int .i64 co] 48)) := ((((Below.refl _ _).alloc (by simp) _).alloc (by simp) _).alloc (by simp; omega) _).alloc (by simp; omega) _
   replace bel := belowTo bel hbx (by simp)
   replace oS := oS.below hbx
   replace SU := Lib.hid (SU.out.below hbx)
   replace SG := Lib.hid (SG.out.below hbx)
   replace SL := Lib.hid (SL.out.below hbx)
   replace HO := Lib.hid (HO.out.below hbx)
   replace KU := Lib.hid (KU.out.below hbx)
   replace KG := Lib.hid (KG.out.below hbx)
   clear hbx cS0 cS1 cS2 cS3 cS4 fS zS
   generalize ((((w.alloc (Obj.cells #[.pointer (some ⟨bs, 0, none⟩)] 82)).alloc (Obj.cells #[vu, vg, va] 43)).alloc (Obj.cells #[.int .i64 d.b.fr, .int .i64 d.b.fm, .int .i64 0, .int .i64 0, .int .i64 0, .int .i64 0, .int .i64 0, .int .i64 0, .int .i64 0, .int .i64 0, .int .i64 0, .int .i64 0, .slice d.vu.p d.vu.n d.vu.c, .slice d.vg.p d.vg.n d.vg.c, .slice d.va.p d.va.n d.va.c, .slice none 0 0, .bool false, .slice none 0 0, .slice none 0 0, .slice none 0 0, .int .i64 0, .int .i64 0, .int .u64 0, .int .i64 0, .int .i64 0, .int .i64 0, .int .i64 0, .int .i64 0, .slice none 0 0, .slice none 0 0, .bool false] 86)).alloc (Obj.cells #[.int .i64 cs, .int .i64 co] 48)) = wz at oS oP oT oN oC bel SU SG SL HO KU KG ⊢
   obtain ⟨cS0, cS1, cS2, cS3, cS4, fS, zS⟩ := own5 oS
   obtain ⟨cP0, fP, zP⟩ := own1 oP
   obtain ⟨cT0, cT1, cT2, fT, zT⟩ := own3 oT
   obtain ⟨cN0, cN1, cN12, cN13, cN14, fN, zN⟩ := own_nr (r := d) oN
   obtain ⟨cC0, cC1, fC, zC⟩ := own2 oC
   go_wp2_with fail
   refine (busy_lit _ _ _ us gs cs _ SU.out SG.out false H1.out).mono ?_
   rintro e w1 ⟨rfl, hb⟩
   replace oS := oS.below hb
   replace oP := oP.below hb
   replace oT := oT.below hb
   replace oN := oN.below hb
   replace oC := oC.below hb
   replace SU := Lib.hid (SU.out.below hb)
   replace SG := Lib.hid (SG.out.below hb)
   replace SL := Lib.hid (SL.out.below hb)
   replace HO := Lib.hid (HO.out.below hb)
   replace KU := Lib.hid (KU.out.below hb)
   replace KG := Lib.hid (KG.out.below hb)
   replace bel := belowTo bel hb (by exact bel.size)
   clear hb
   clear cS0 cS1 cS2 cS3 cS4 fS zS cP0 fP zP cT0 cT1 cT2 fT zT cN0 cN1 cN12 cN13 cN14 fN zN cC0 cC1 fC zC
   obtain ⟨cS0, cS1, cS2, cS3, cS4, fS, zS⟩ := own5 oS
   obtain ⟨cP0, fP, zP⟩ := own1 oP
   obtain ⟨cT0, cT1, cT2, fT, zT⟩ := own3 oT
   obtain ⟨cN0, cN1, cN12, cN13, cN14, fN, zN⟩ := own_nr (r := d) oN
   obtain ⟨cC0, cC1, fC, zC⟩ := own2 oC
   go_wp2_with fail
   refine (busy_lit _ _ _ d.b.us d.b.gs cs _ KU.out KG.out true H2.out).mono ?_
   rintro e w2 ⟨rfl, hb⟩
   replace oS := oS.below hb
   replace oP := oP.below hb
   replace oT := oT.below hb
   replace oN := oN.below hb
   replace oC := oC.below hb
   replace SU := Lib.hid (SU.out.below hb)
   replace SG := Lib.hid (SG.out.below hb)
   replace SL := Lib.hid (SL.out.below hb)
   replace HO := Lib.hid (HO.out.below hb)
   replace KU := Lib.hid (KU.out.below hb)
   replace KG := Lib.hid (KG.out.below hb)
   replace bel := belowTo bel hb (by exact bel.size)
   clear hb
   clear cS0 cS1 cS2 cS3 cS4 fS zS cP0 fP zP cT0 cT1 cT2 fT zT cN0 cN1 cN12 cN13 cN14 fN zN cC0 cC1 fC zC
   obtain ⟨cS0, cS1, cS2, cS3, cS4, fS, zS⟩ := own5 oS
   obtain ⟨cP0, fP, zP⟩ := own1 oP
   obtain ⟨cT0, cT1, cT2, fT, zT⟩ := own3 oT
   obtain ⟨cN0, cN1, cN12, cN13, cN14, fN, zN⟩ := own_nr (r := d) oN
   obtain ⟨cC0, cC1, fC, zC⟩ := own2 oC
   go_wp2_with fail
   all_goals (go_ret; exact ⟨ret_bool (by rw [HR.out]; first | rfl | simp), bel⟩)
  | false =>
   go_enter Tryz.func35, Tryz.ntmps35
   have oS := os
   obtain ⟨cS0, cS1, cS2, cS3, cS4, fS, zS⟩ := own5 oS
   have bel := Below.refl w.heap.size w
   go_wp2_with fail
   have oP : Own ((((w.alloc (Obj.cells #[.pointer (some ⟨bs, 0, none⟩)] 82)).alloc (Obj.cells #[vu, vg, va] 43)).alloc (Obj.cells #[.int .i64 d.b.fr, .int .i64 d.b.fm, .int .i64 0, .int .i64 0, .int .i64 0, .int .i64 0, .int .i64 0, .int .i64 0, .int .i64 0, .int .i64 0, .int .i64 0, .int .i64 0, .slice d.vu.p d.vu.n d.vu.c, .slice d.vg.p d.vg.n d.vg.c, .slice d.va.p d.va.n d.va.c, .slice none 0 0, .bool false, .slice none 0 0, .slice none 0 0, .slice none 0 0, .int .i64 0, .int .i64 0, .int .u64 0, .int .i64 0, .int .i64 0, .int .i64 0, .int .i64 0, .int .i64 0, .slice none 0 0, .slice none 0 0, .bool false] 86)).alloc (Obj.cells #[.int .i64 cs, .int .i64 co] 48)) (w.heap.size) [.pointer (some ⟨bs, 0, none⟩)] 82 := ((((own_at _ _ rfl).alloc _).alloc _).alloc _)
   have oT : Own ((((w.alloc (Obj.cells #[.pointer (some ⟨bs, 0, none⟩)] 82)).alloc (Obj.cells #[vu, vg, va] 43)).alloc (Obj.cells #[.int .i64 d.b.fr, .int .i64 d.b.fm, .int .i64 0, .int .i64 0, .int .i64 0, .int .i64 0, .int .i64 0, .int .i64 0, .int .i64 0, .int .i64 0, .int .i64 0, .int .i64 0, .slice d.vu.p d.vu.n d.vu.c, .slice d.vg.p d.vg.n d.vg.c, .slice d.va.p d.va.n d.va.c, .slice none 0 0, .bool false, .slice none 0 0, .slice none 0 0, .slice none 0 0, .int .i64 0, .int .i64 0, .int .u64 0, .int .i64 0, .int .i64 0, .int .i64 0, .int .i64 0, .int .i64 0, .slice none 0 0, .slice none 0 0, .bool false] 86)).alloc (Obj.cells #[.int .i64 cs, .int .i64 co] 48)) (w.heap.size + 1) [vu, vg, va] 43 := (((own_at _ _ (by simp)).alloc _).alloc _)
   have oN : Own ((((w.alloc (Obj.cells #[.pointer (some ⟨bs, 0, none⟩)] 82)).alloc (Obj.cells #[vu, vg, va] 43)).alloc (Obj.cells #[.int .i64 d.b.fr, .int .i64 d.b.fm, .int .i64 0, .int .i64 0, .int .i64 0, .int .i64 0, .int .i64 0, .int .i64 0, .int .i64 0, .int .i64 0, .int .i64 0, .int .i64 0, .slice d.vu.p d.vu.n d.vu.c, .slice d.vg.p d.vg.n d.vg.c, .slice d.va.p d.va.n d.va.c, .slice none 0 0, .bool false, .slice none 0 0, .slice none 0 0, .slice none 0 0, .int .i64 0, .int .i64 0, .int .u64 0, .int .i64 0, .int .i64 0, .int .i64 0, .int .i64 0, .int .i64 0, .slice none 0 0, .slice none 0 0, .bool false] 86)).alloc (Obj.cells #[.int .i64 cs, .int .i64 co] 48)) (w.heap.size + 1 + 1) [.int .i64 d.b.fr, .int .i64 d.b.fm, .int .i64 0, .int .i64 0, .int .i64 0, .int .i64 0, .int .i64 0, .int .i64 0, .int .i64 0, .int .i64 0, .int .i64 0, .int .i64 0, .slice d.vu.p d.vu.n d.vu.c, .slice d.vg.p d.vg.n d.vg.c, .slice d.va.p d.va.n d.va.c, .slice none 0 0, .bool false, .slice none 0 0, .slice none 0 0, .slice none 0 0, .int .i64 0, .int .i64 0, .int .u64 0, .int .i64 0, .int .i64 0, .int .i64 0, .int .i64 0, .int .i64 0, .slice none 0 0, .slice none 0 0, .bool false] 86 := ((own_at _ _ (by simp)).alloc _)
   have oC : Own ((((w.alloc (Obj.cells #[.pointer (some ⟨bs, 0, none⟩)] 82)).alloc (Obj.cells #[vu, vg, va] 43)).alloc (Obj.cells #[.int .i64 d.b.fr, .int .i64 d.b.fm, .int .i64 0, .int .i64 0, .int .i64 0, .int .i64 0, .int .i64 0, .int .i64 0, .int .i64 0, .int .i64 0, .int .i64 0, .int .i64 0, .slice d.vu.p d.vu.n d.vu.c, .slice d.vg.p d.vg.n d.vg.c, .slice d.va.p d.va.n d.va.c, .slice none 0 0, .bool false, .slice none 0 0, .slice none 0 0, .slice none 0 0, .int .i64 0, .int .i64 0, .int .u64 0, .int .i64 0, .int .i64 0, .int .i64 0, .int .i64 0, .int .i64 0, .slice none 0 0, .slice none 0 0, .bool false] 86)).alloc (Obj.cells #[.int .i64 cs, .int .i64 co] 48)) (w.heap.size + 1 + 1 + 1) [.int .i64 cs, .int .i64 co] 48 := (own_at _ _ (by simp))
   have hbx : Below w.heap.size w ((((w.alloc (Obj.cells #[.pointer (some ⟨bs, 0, none⟩)] 82)).alloc (Obj.cells #[vu, vg, va] 43)).alloc (Obj.cells #[.int .i64 d.b.fr, .int .i64 d.b.fm, .int .i64 0, .int .i64 0, .int .i64 0, .int .i64 0, .int .i64 0, .int .i64 0, .int .i64 0, .int .i64 0, .int .i64 0, .int .i64 0, .slice d.vu.p d.vu.n d.vu.c, .slice d.vg.p d.vg.n d.vg.c, .slice d.va.p d.va.n d.va.c, .slice none 0 0, .bool false, .slice none 0 0, .slice none 0 0, .slice none 0 0, .int .i64 0, .int .i64 0, .int .u64 0, .int .i64 0, .int .i64 0, .int .i64 0, .int .i64 0, .int .i64 0, .slice none 0 0, .slice none 0 0, .bool false] 86)).alloc (Obj.cells #[.int .i64 cs, .int .i64 co] 48)) := ((((Below.refl _ _).alloc (by simp) _).alloc (by simp) _).alloc (by simp; omega) _).alloc (by simp; omega) _
   replace bel := belowTo bel hbx (by simp)
   replace oS := oS.below hbx
   replace SU := Lib.hid (SU.out.below hbx)
   replace SG := Lib.hid (SG.out.below hbx)
   replace SL := Lib.hid (SL.out.below hbx)
   replace HO := Lib.hid (HO.out.below hbx)
   replace KU := Lib.hid (KU.out.below hbx)
   replace KG := Lib.hid (KG.out.below hbx)
   clear hbx cS0 cS1 cS2 cS3 cS4 fS zS
   generalize ((((w.alloc (Obj.cells #[.pointer (some ⟨bs, 0, none⟩)] 82)).alloc (Obj.cells #[vu, vg, va] 43)).alloc (Obj.cells #[.int .i64 d.b.fr, .int .i64 d.b.fm, .int .i64 0, .int .i64 0, .int .i64 0, .int .i64 0, .int .i64 0, .int .i64 0, .int .i64 0, .int .i64 0, .int .i64 0, .int .i64 0, .slice d.vu.p d.vu.n d.vu.c, .slice d.vg.p d.vg.n d.vg.c, .slice d.va.p d.va.n d.va.c, .slice none 0 0, .bool false, .slice none 0 0, .slice none 0 0, .slice none 0 0, .int .i64 0, .int .i64 0, .int .u64 0, .int .i64 0, .int .i64 0, .int .i64 0, .int .i64 0, .int .i64 0, .slice none 0 0, .slice none 0 0, .bool false] 86)).alloc (Obj.cells #[.int .i64 cs, .int .i64 co] 48)) = wz at oS oP oT oN oC bel SU SG SL HO KU KG ⊢
   obtain ⟨cS0, cS1, cS2, cS3, cS4, fS, zS⟩ := own5 oS
   obtain ⟨cP0, fP, zP⟩ := own1 oP
   obtain ⟨cT0, cT1, cT2, fT, zT⟩ := own3 oT
   obtain ⟨cN0, cN1, cN12, cN13, cN14, fN, zN⟩ := own_nr (r := d) oN
   obtain ⟨cC0, cC1, fC, zC⟩ := own2 oC
   go_wp2_with fail
   refine (busy_lit _ _ _ us gs cs _ SU.out SG.out false H1.out).mono ?_
   rintro e w1 ⟨rfl, hb⟩
   replace oS := oS.below hb
   replace oP := oP.below hb
   replace oT := oT.below hb
   replace oN := oN.below hb
   replace oC := oC.below hb
   replace SU := Lib.hid (SU.out.below hb)
   replace SG := Lib.hid (SG.out.below hb)
   replace SL := Lib.hid (SL.out.below hb)
   replace HO := Lib.hid (HO.out.below hb)
   replace KU := Lib.hid (KU.out.below hb)
   replace KG := Lib.hid (KG.out.below hb)
   replace bel := belowTo bel hb (by exact bel.size)
   clear hb
   clear cS0 cS1 cS2 cS3 cS4 fS zS cP0 fP zP cT0 cT1 cT2 fT zT cN0 cN1 cN12 cN13 cN14 fN zN cC0 cC1 fC zC
   obtain ⟨cS0, cS1, cS2, cS3, cS4, fS, zS⟩ := own5 oS
   obtain ⟨cP0, fP, zP⟩ := own1 oP
   obtain ⟨cT0, cT1, cT2, fT, zT⟩ := own3 oT
   obtain ⟨cN0, cN1, cN12, cN13, cN14, fN, zN⟩ := own_nr (r := d) oN
   obtain ⟨cC0, cC1, fC, zC⟩ := own2 oC
   go_wp2_with fail
   refine (busy_lit _ _ _ d.b.us d.b.gs cs _ KU.out KG.out false H2.out).mono ?_
   rintro e w2 ⟨rfl, hb⟩
   replace oS := oS.below hb
   replace oP := oP.below hb
   replace oT := oT.below hb
   replace oN := oN.below hb
   replace oC := oC.below hb
   replace SU := Lib.hid (SU.out.below hb)
   replace SG := Lib.hid (SG.out.below hb)
   replace SL := Lib.hid (SL.out.below hb)
   replace HO := Lib.hid (HO.out.below hb)
   replace KU := Lib.hid (KU.out.below hb)
   replace KG := Lib.hid (KG.out.below hb)
   replace bel := belowTo bel hb (by exact bel.size)
   clear hb
   clear cS0 cS1 cS2 cS3 cS4 fS zS cP0 fP zP cT0 cT1 cT2 fT zT cN0 cN1 cN12 cN13 cN14 fN zN cC0 cC1 fC zC
   obtain ⟨cS0, cS1, cS2, cS3, cS4, fS, zS⟩ := own5 oS
   obtain ⟨cP0, fP, zP⟩ := own1 oP
   obtain ⟨cT0, cT1, cT2, fT, zT⟩ := own3 oT
   obtain ⟨cN0, cN1, cN12, cN13, cN14, fN, zN⟩ := own_nr (r := d) oN
   obtain ⟨cC0, cC1, fC, zC⟩ := own2 oC
   go_wp2_with fail
   refine (cfx_pos1 _ S (w.heap.size + 1 + 1 + 1) w.heap.size bs cs co me x3 _ SL.out HO.out zC zP zS cC0 cC1 cP0 cS2 H3.out).mono ?_
   rintro e w3 ⟨rfl, hb⟩
   replace oS := oS.below hb
   replace oP := oP.below hb
   replace oT := oT.below hb
   replace oN := oN.below hb
   replace oC := oC.below hb
   replace SU := Lib.hid (SU.out.below hb)
   replace SG := Lib.hid (SG.out.below hb)
   replace SL := Lib.hid (SL.out.below hb)
   replace HO := Lib.hid (HO.out.below hb)
   replace KU := Lib.hid (KU.out.below hb)
   replace KG := Lib.hid (KG.out.below hb)
   replace bel := belowTo bel hb (by exact bel.size)
   clear hb
   clear cS0 cS1 cS2 cS3 cS4 fS zS cP0 fP zP cT0 cT1 cT2 fT zT cN0 cN1 cN12 cN13 cN14 fN zN cC0 cC1 fC zC
   obtain ⟨cS0, cS1, cS2, cS3, cS4, fS, zS⟩ := own5 oS
   obtain ⟨cP0, fP, zP⟩ := own1 oP
   obtain ⟨cT0, cT1, cT2, fT, zT⟩ := own3 oT
   obtain ⟨cN0, cN1, cN12, cN13, cN14, fN, zN⟩ := own_nr (r := d) oN
   obtain ⟨cC0, cC1, fC, zC⟩ := own2 oC
   go_wp2_with fail
   all_goals (go_ret; exact ⟨ret_bool (by rw [HR.out]; first | rfl | simp), bel⟩)
set_option maxRecDepth 100000 in
set_option maxHeartbeats 2000000 in
theorem ask1_any (bp bt bn : Nat) (bs : Nat) (N D me f : Int) (sv : Sv) (S : List Nr) (vu vg va : Value) (us : List Us) (gs : List Gr) (d : Nr) (cs co : Int) (x : Bool) (w : World) (os : Own w bs [.int .i64 N, .int .i64 D, .int .i64 me, .slice sv.p sv.n sv.c, .int .i64 f] 93) (sl : SlN w (.slice sv.p sv.n sv.c) S) (ho : NsOk w S) (su : SlU w vu us) (sg : SlG w vg gs) (hk : NrOk w d) (op : Own w bp [.pointer (some ⟨bs, 0, none⟩)] 82) (ot : Own w bt [vu, vg, va] 43) (on : Own w bn [.int .i64 d.b.fr, .int .i64 d.b.fm, .int .i64 0, .int .i64 0, .int .i64 0, .int .i64 0, .int .i64 0, .int .i64 0, .int .i64 0, .int .i64 0, .int .i64 0, .int .i64 0, .slice d.vu.p d.vu.n d.vu.c, .slice d.vg.p d.vg.n d.vg.c, .slice d.va.p d.va.n d.va.c, .slice none 0 0, .bool false, .slice none 0 0, .slice none 0 0, .slice none 0 0, .int .i64 0, .int .i64 0, .int .u64 0, .int .i64 0, .int .i64 0, .int .i64 0, .int .i64 0, .int .i64 0, .slice none 0 0, .slice none 0 0, .bool false] 86) (hx : posB me (S.map Nr.b) us gs d.b cs co = x) : Calls Tryz.prog 34 #[.agg #[.int .i64 cs, .int .i64 co], .pointer (some ⟨bp, 0, none⟩), .pointer (some ⟨bt, 0, none⟩), .pointer (some ⟨bn, 0, none⟩)] w fun e w' => e = .returned (.bool x) ∧ Below w.heap.size w w' := by
 have SU := Lib.hid su
 have SG := Lib.hid sg
 have SL := Lib.hid sl
 have HO := Lib.hid ho
 have KU := Lib.hid hk
 have HX := Lib.hid hx
 clear su sg sl ho hk hx
 go_enter Tryz.func34, Tryz.ntmps34
 have oS := os
 clear os
 obtain ⟨cS0, cS1, cS2, cS3, cS4, fS, zS⟩ := own5 oS
 have oP := op
 clear op
 obtain ⟨cP0, fP, zP⟩ := own1 oP
 have oT := ot
 clear ot
 obtain ⟨cT0, cT1, cT2, fT, zT⟩ := own3 oT
 have oN := on
 clear on
 obtain ⟨cN0, cN1, cN12, cN13, cN14, fN, zN⟩ := own_nr (r := d) oN
 have hrg : (w.alloc (Obj.cells #[.int .i64 cs, .int .i64 co] 48)).rangeAt bn 0 (Nr.cells d) := fun j v hv => by rw [Nat.zero_add]; exact (oN.alloc _).cell hv
 have bel := Below.refl w.heap.size w
 go_wp2_with (first | ((with_reducible refine loadN d bn 0 ?_ ?_ hrg ?_); (next => rfl); (next => exact ⟨_, rfl, rfl⟩)) | fail)
 clear hrg
 have oC : Own (w.alloc (Obj.cells #[.int .i64 cs, .int .i64 co] 48)) (w.heap.size) [.int .i64 cs, .int .i64 co] 48 := (own_at _ _ rfl)
 have hbx : Below w.heap.size w (w.alloc (Obj.cells #[.int .i64 cs, .int .i64 co] 48)) := (Below.refl _ _).alloc (by simp) _
 replace bel := belowTo bel hbx (by simp)
 replace oS := oS.below hbx
 replace oP := oP.below hbx
 replace oT := oT.below hbx
 replace oN := oN.below hbx
 replace SU := Lib.hid (SU.out.below hbx)
 replace SG := Lib.hid (SG.out.below hbx)
 replace SL := Lib.hid (SL.out.below hbx)
 replace HO := Lib.hid (HO.out.below hbx)
 replace KU := Lib.hid (KU.out.below hbx)
 clear hbx cS0 cS1 cS2 cS3 cS4 fS zS cP0 fP zP cT0 cT1 cT2 fT zT cN0 cN1 cN12 cN13 cN14 fN zN
 generalize (w.alloc (Obj.cells #[.int .i64 cs, .int .i64 co] 48)) = wz at oS oP oT oN oC bel SU SG SL HO KU ⊢
 obtain ⟨cS0, cS1, cS2, cS3, cS4, fS, zS⟩ := own5 oS
 obtain ⟨cP0, fP, zP⟩ := own1 oP
 obtain ⟨cT0, cT1, cT2, fT, zT⟩ := own3 oT
 obtain ⟨cN0, cN1, cN12, cN13, cN14, fN, zN⟩ := own_nr (r := d) oN
 obtain ⟨cC0, cC1, fC, zC⟩ := own2 oC
 refine (pos_any bs N D me f sv S vu vg va us gs d cs co x _ oS SL.out HO.out SU.out SG.out KU.out HX.out).mono ?_
 rintro e w1 ⟨rfl, hb⟩
 replace oS := oS.below hb
 replace oP := oP.below hb
 replace oT := oT.below hb
 replace oN := oN.below hb
 replace oC := oC.below hb
 replace SU := Lib.hid (SU.out.below hb)
 replace SG := Lib.hid (SG.out.below hb)
 replace SL := Lib.hid (SL.out.below hb)
 replace HO := Lib.hid (HO.out.below hb)
 replace KU := Lib.hid (KU.out.below hb)
 replace bel := belowTo bel hb (by exact bel.size)
 clear hb
 clear cS0 cS1 cS2 cS3 cS4 fS zS cP0 fP zP cT0 cT1 cT2 fT zT cN0 cN1 cN12 cN13 cN14 fN zN cC0 cC1 fC zC
 obtain ⟨cS0, cS1, cS2, cS3, cS4, fS, zS⟩ := own5 oS
 obtain ⟨cP0, fP, zP⟩ := own1 oP
 obtain ⟨cT0, cT1, cT2, fT, zT⟩ := own3 oT
 obtain ⟨cN0, cN1, cN12, cN13, cN14, fN, zN⟩ := own_nr (r := d) oN
 obtain ⟨cC0, cC1, fC, zC⟩ := own2 oC
 go_wp2_with fail
 go_ret
 exact ⟨rfl, bel⟩
end Go.Proofs.YtmopiifamopidaaGreat
end
