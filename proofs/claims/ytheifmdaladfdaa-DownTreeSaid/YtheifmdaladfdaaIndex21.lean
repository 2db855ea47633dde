/- Contracts of package down: the closures, IndexFunc, ContainsFunc, valid, Next. -/
import Derived.Test.YtheifmdaladfdaaRead21
namespace Go.Proofs.Ytheifmdaladfdaa
open Go.RowKit

theorem good_lit (d : Dn) (x : Bool) (w : World) (h : (!godB d) = x) : Calls Try.prog 37 #[.agg #[.int .i64 d.t, .int .i64 d.n, .int .i64 d.s, .int .i64 d.u]] w fun e w' => e = .returned (.bool x) ∧ Below w.heap.size w w' := by
  have := good_any d w
  rwa [h] at this

set_option linter.unusedVariables false in
set_option maxRecDepth 100000 in
set_option maxHeartbeats 2000000 in
theorem lc_lit (bn : Nat) (x : Int) (d : Dn) (r : Bool) (w : World) (hb : bn < w.heap.size) (c0 : w.cell? ⟨bn, 0, none⟩ = some (.int .i64 x)) (h : (d.t == x) = r) :
    Calls Try.prog 24 #[.agg #[.int .i64 d.t, .int .i64 d.n, .int .i64 d.s, .int .i64 d.u], .pointer (some ⟨bn, 0, none⟩)] w fun e w' => e = .returned (.bool r) ∧ Below w.heap.size w w' := by
  have HR := Lib.hid h
  clear h
  go_enter Try.func24, Try.ntmps24
  go_wp2
  all_goals (go_ret; exact ⟨ret_bool (by rw [← HR.out]), belowNew w _⟩)

set_option linter.unusedVariables false in
set_option maxRecDepth 100000 in
set_option maxHeartbeats 2000000 in
theorem nc_lit (bn : Nat) (x : Int) (d : Dn) (r : Bool) (w : World) (hb : bn < w.heap.size) (c0 : w.cell? ⟨bn, 0, none⟩ = some (.int .i64 x)) (h : (d.t == x) = r) :
    Calls Try.prog 33 #[.agg #[.int .i64 d.t, .int .i64 d.n, .int .i64 d.s, .int .i64 d.u], .pointer (some ⟨bn, 0, none⟩)] w fun e w' => e = .returned (.bool r) ∧ Below w.heap.size w w' := by
  have HR := Lib.hid h
  clear h
  go_enter Try.func33, Try.ntmps33
  go_wp2
  all_goals (go_ret; exact ⟨ret_bool (by rw [← HR.out]), belowNew w _⟩)

set_option linter.unusedVariables false in
set_option maxRecDepth 100000 in
set_option maxHeartbeats 2000000 in
theorem ec_lit (bn : Nat) (x : Int) (d : Dn) (r : Bool) (w : World) (hb : bn < w.heap.size) (c0 : w.cell? ⟨bn, 0, none⟩ = some (.int .i64 x)) (h : (decide (d.u < x)) = r) :
    Calls Try.prog 36 #[.agg #[.int .i64 d.t, .int .i64 d.n, .int .i64 d.s, .int .i64 d.u], .pointer (some ⟨bn, 0, none⟩)] w fun e w' => e = .returned (.bool r) ∧ Below w.heap.size w w' := by
  have HR := Lib.hid h
  clear h
  go_enter Try.func36, Try.ntmps36
  go_wp2
  all_goals (go_ret; exact ⟨ret_bool (by rw [← HR.out]), belowNew w _⟩)

set_option linter.unusedVariables false in
set_option maxRecDepth 100000 in
set_option maxHeartbeats 2000000 in
theorem ixv_any (v : Value) (ls : List Dn) (w : World) (sl : SlD w v ls) :
    Calls Try.prog 32 #[v, .func (.func 37) #[] #[]] w fun e w' => e = .returned (.int .i64 (idxD (fun d => !godB d) ls)) ∧ Below w.heap.size w w' := by
  obtain ⟨p, cap, e0, hlc, hcm, hpn⟩ := sl.form ls.length rfl
  subst e0
  have SL := Lib.hid sl
  unfold maxLen at hcm
  clear hpn
  go_enter Try.func32, Try.ntmps32
  go_wp2
  go_loopw [8] (fun ii wr => ∃ (i : Nat), i ≤ ls.length ∧ ii = .int .i64 i ∧ idxD (fun d => !godB d) ls = idxF (fun d => !godB d) (ls.drop i) i ∧ Below w.heap.size w wr) (fun i _ => ls.length - (intOf i).toNat)
  case atStart => exact ⟨0, by omega, rfl, rfl, Below.refl _ _⟩
  case round =>
    obtain ⟨i, hi, rfl, hT, bel⟩ := hrel
    have HT := Lib.hid hT
    clear hT
    by_cases hlt : i < ls.length
    · obtain ⟨d, b, off, hd, rfl, hbl, _, d0, d1, d2, d3⟩ := SL.out.at4 bel hlt
      have j0 : (0 : Int) ≤ (i : Int) := Int.natCast_nonneg _
      have j1 : (i : Int) < (ls.length : Int) := by omega
      have HD := Lib.hid hd
      clear hd
      cases hn : (fun d => !godB d) d with
      | true =>
        have HN := Lib.hid hn
        clear hn
        go_wp2_with (first | (go_at_call 37; refine (good_lit d true _ HN.out).mono ?_; rintro e w1 ⟨rfl, hb2⟩; have B1 := Lib.hid (belowTo bel hb2 bel.size); clear hb2))
        go_ret
        exact ⟨ret_int (by rw [HT.out, idxF_hit HD.out HN.out]), B1.out⟩
      | false =>
        have HN := Lib.hid hn
        clear hn
        go_wp2_with (first | (go_at_call 37; refine (good_lit d false _ HN.out).mono ?_; rintro e w1 ⟨rfl, hb2⟩; have B1 := Lib.hid (belowTo bel hb2 bel.size); clear hb2))
        go_roundw
        case rel => exact ⟨i + 1, by omega, by go_num, by rw [HT.out, idxF_miss HD.out HN.out], B1.out⟩
        case measure => simp [intOf]; omega
    · have HE := Lib.hid (idxF_end (q := (fun d => !godB d)) (rs := ls) (k := i) (by omega))
      go_wp2
      go_ret
      exact ⟨ret_int (by rw [HT.out, HE.out]), bel⟩
theorem ixv_lit (v : Value) (ls : List Dn) (r : Int) (w : World) (sl : SlD w v ls) (h : idxD (fun d => !godB d) ls = r) :
    Calls Try.prog 32 #[v, .func (.func 37) #[] #[]] w fun e w' => e = .returned (.int .i64 r) ∧ Below w.heap.size w w' := by
  have := ixv_any v ls w sl 
  rwa [h] at this

set_option linter.unusedVariables false in
set_option maxRecDepth 100000 in
set_option maxHeartbeats 2000000 in
theorem ixl_any (v : Value) (ls : List Dn) (bn : Nat) (x : Int) (w : World) (sl : SlD w v ls) (hb : bn < w.heap.size) (c0 : w.cell? ⟨bn, 0, none⟩ = some (.int .i64 x)) :
    Calls Try.prog 32 #[v, .func (.func 24) #[] #[.pointer (some ⟨bn, 0, none⟩)]] w fun e w' => e = .returned (.int .i64 (idxD (fun d => d.t == x) ls)) ∧ Below w.heap.size w w' := by
  obtain ⟨p, cap, e0, hlc, hcm, hpn⟩ := sl.form ls.length rfl
  subst e0
  have SL := Lib.hid sl
  unfold maxLen at hcm
  clear hpn
  have C0 := Lib.hid c0
  clear c0
  go_enter Try.func32, Try.ntmps32
  go_wp2
  go_loopw [8] (fun ii wr => ∃ (i : Nat), i ≤ ls.length ∧ ii = .int .i64 i ∧ idxD (fun d => d.t == x) ls = idxF (fun d => d.t == x) (ls.drop i) i ∧ Below w.heap.size w wr) (fun i _ => ls.length - (intOf i).toNat)
  case atStart => exact ⟨0, by omega, rfl, rfl, Below.refl _ _⟩
  case round =>
    obtain ⟨i, hi, rfl, hT, bel⟩ := hrel
    have HT := Lib.hid hT
    clear hT
    by_cases hlt : i < ls.length
    · obtain ⟨d, b, off, hd, rfl, hbl, _, d0, d1, d2, d3⟩ := SL.out.at4 bel hlt
      have j0 : (0 : Int) ≤ (i : Int) := Int.natCast_nonneg _
      have j1 : (i : Int) < (ls.length : Int) := by omega
      have HD := Lib.hid hd
      clear hd
      have C1 := Lib.hid ((bel.cell (p := ⟨bn, 0, none⟩) hb).trans C0.out)
      have HB1 := Lib.hid (Nat.lt_of_lt_of_le hb bel.size)
      cases hn : (fun d => d.t == x) d with
      | true =>
        have HN := Lib.hid hn
        clear hn
        go_wp2_with (first | (go_at_call 24; refine (lc_lit bn x d true _ HB1.out C1.out HN.out).mono ?_; rintro e w1 ⟨rfl, hb2⟩; have B1 := Lib.hid (belowTo bel hb2 bel.size); clear hb2))
        go_ret
        exact ⟨ret_int (by rw [HT.out, idxF_hit HD.out HN.out]), B1.out⟩
      | false =>
        have HN := Lib.hid hn
        clear hn
        go_wp2_with (first | (go_at_call 24; refine (lc_lit bn x d false _ HB1.out C1.out HN.out).mono ?_; rintro e w1 ⟨rfl, hb2⟩; have B1 := Lib.hid (belowTo bel hb2 bel.size); clear hb2))
        go_roundw
        case rel => exact ⟨i + 1, by omega, by go_num, by rw [HT.out, idxF_miss HD.out HN.out], B1.out⟩
        case measure => simp [intOf]; omega
    · have HE := Lib.hid (idxF_end (q := (fun d => d.t == x)) (rs := ls) (k := i) (by omega))
      go_wp2
      go_ret
      exact ⟨ret_int (by rw [HT.out, HE.out]), bel⟩
theorem ixl_lit (v : Value) (ls : List Dn) (bn : Nat) (x : Int) (r : Int) (w : World) (sl : SlD w v ls) (hb : bn < w.heap.size) (c0 : w.cell? ⟨bn, 0, none⟩ = some (.int .i64 x)) (h : idxD (fun d => d.t == x) ls = r) :
    Calls Try.prog 32 #[v, .func (.func 24) #[] #[.pointer (some ⟨bn, 0, none⟩)]] w fun e w' => e = .returned (.int .i64 r) ∧ Below w.heap.size w w' := by
  have := ixl_any v ls bn x w sl hb c0
  rwa [h] at this

set_option linter.unusedVariables false in
set_option maxRecDepth 100000 in
set_option maxHeartbeats 2000000 in
theorem ixn_any (v : Value) (ls : List Dn) (bn : Nat) (x : Int) (w : World) (sl : SlD w v ls) (hb : bn < w.heap.size) (c0 : w.cell? ⟨bn, 0, none⟩ = some (.int .i64 x)) :
    Calls Try.prog 32 #[v, .func (.func 33) #[] #[.pointer (some ⟨bn, 0, none⟩)]] w fun e w' => e = .returned (.int .i64 (idxD (fun d => d.t == x) ls)) ∧ Below w.heap.size w w' := by
  obtain ⟨p, cap, e0, hlc, hcm, hpn⟩ := sl.form ls.length rfl
  subst e0
  have SL := Lib.hid sl
  unfold maxLen at hcm
  clear hpn
  have C0 := Lib.hid c0
  clear c0
  go_enter Try.func32, Try.ntmps32
  go_wp2
  go_loopw [8] (fun ii wr => ∃ (i : Nat), i ≤ ls.length ∧ ii = .int .i64 i ∧ idxD (fun d => d.t == x) ls = idxF (fun d => d.t == x) (ls.drop i) i ∧ Below w.heap.size w wr) (fun i _ => ls.length - (intOf i).toNat)
  case atStart => exact ⟨0, by omega, rfl, rfl, Below.refl _ _⟩
  case round =>
    obtain ⟨i, hi, rfl, hT, bel⟩ := hrel
    have HT := Lib.hid hT
    clear hT
    by_cases hlt : i < ls.length
    · obtain ⟨d, b, off, hd, rfl, hbl, _, d0, d1, d2, d3⟩ := SL.out.at4 bel hlt
      have j0 : (0 : Int) ≤ (i : Int) := Int.natCast_nonneg _
      have j1 : (i : Int) < (ls.length : Int) := by omega
      have HD := Lib.hid hd
      clear hd
      have C1 := Lib.hid ((bel.cell (p := ⟨bn, 0, none⟩) hb).trans C0.out)
      have HB1 := Lib.hid (Nat.lt_of_lt_of_le hb bel.size)
      cases hn : (fun d => d.t == x) d with
      | true =>
        have HN := Lib.hid hn
        clear hn
        go_wp2_with (first | (go_at_call 33; refine (nc_lit bn x d true _ HB1.out C1.out HN.out).mono ?_; rintro e w1 ⟨rfl, hb2⟩; have B1 := Lib.hid (belowTo bel hb2 bel.size); clear hb2))
        go_ret
        exact ⟨ret_int (by rw [HT.out, idxF_hit HD.out HN.out]), B1.out⟩
      | false =>
        have HN := Lib.hid hn
        clear hn
        go_wp2_with (first | (go_at_call 33; refine (nc_lit bn x d false _ HB1.out C1.out HN.out).mono ?_; rintro e w1 ⟨rfl, hb2⟩; have B1 := Lib.hid (belowTo bel hb2 bel.size); clear hb2))
        go_roundw
        case rel => exact ⟨i + 1, by omega, by go_num, by rw [HT.out, idxF_miss HD.out HN.out], B1.out⟩
        case measure => simp [intOf]; omega
    · have HE := Lib.hid (idxF_end (q := (fun d => d.t == x)) (rs := ls) (k := i) (by omega))
      go_wp2
      go_ret
      exact ⟨ret_int (by rw [HT.out, HE.out]), bel⟩
theorem ixn_lit (v : Value) (ls : List Dn) (bn : Nat) (x : Int) (r : Int) (w : World) (sl : SlD w v ls) (hb : bn < w.heap.size) (c0 : w.cell? ⟨bn, 0, none⟩ = some (.int .i64 x)) (h : idxD (fun d => d.t == x) ls = r) :
    Calls Try.prog 32 #[v, .func (.func 33) #[] #[.pointer (some ⟨bn, 0, none⟩)]] w fun e w' => e = .returned (.int .i64 r) ∧ Below w.heap.size w w' := by
  have := ixn_any v ls bn x w sl hb c0
  rwa [h] at this

set_option linter.unusedVariables false in
set_option maxRecDepth 100000 in
set_option maxHeartbeats 2000000 in
theorem ixe_any (v : Value) (ls : List Dn) (bn : Nat) (x : Int) (w : World) (sl : SlD w v ls) (hb : bn < w.heap.size) (c0 : w.cell? ⟨bn, 0, none⟩ = some (.int .i64 x)) :
    Calls Try.prog 32 #[v, .func (.func 36) #[] #[.pointer (some ⟨bn, 0, none⟩)]] w fun e w' => e = .returned (.int .i64 (idxD (fun d => decide (d.u < x)) ls)) ∧ Below w.heap.size w w' := by
  obtain ⟨p, cap, e0, hlc, hcm, hpn⟩ := sl.form ls.length rfl
  subst e0
  have SL := Lib.hid sl
  unfold maxLen at hcm
  clear hpn
  have C0 := Lib.hid c0
  clear c0
  go_enter Try.func32, Try.ntmps32
  go_wp2
  go_loopw [8] (fun ii wr => ∃ (i : Nat), i ≤ ls.length ∧ ii = .int .i64 i ∧ idxD (fun d => decide (d.u < x)) ls = idxF (fun d => decide (d.u < x)) (ls.drop i) i ∧ Below w.heap.size w wr) (fun i _ => ls.length - (intOf i).toNat)
  case atStart => exact ⟨0, by omega, rfl, rfl, Below.refl _ _⟩
  case round =>
    obtain ⟨i, hi, rfl, hT, bel⟩ := hrel
    have HT := Lib.hid hT
    clear hT
    by_cases hlt : i < ls.length
    · obtain ⟨d, b, off, hd, rfl, hbl, _, d0, d1, d2, d3⟩ := SL.out.at4 bel hlt
      have j0 : (0 : Int) ≤ (i : Int) := Int.natCast_nonneg _
      have j1 : (i : Int) < (ls.length : Int) := by omega
      have HD := Lib.hid hd
      clear hd
      have C1 := Lib.hid ((bel.cell (p := ⟨bn, 0, none⟩) hb).trans C0.out)
      have HB1 := Lib.hid (Nat.lt_of_lt_of_le hb bel.size)
      cases hn : (fun d => decide (d.u < x)) d with
      | true =>
        have HN := Lib.hid hn
        clear hn
        go_wp2_with (first | (go_at_call 36; refine (ec_lit bn x d true _ HB1.out C1.out HN.out).mono ?_; rintro e w1 ⟨rfl, hb2⟩; have B1 := Lib.hid (belowTo bel hb2 bel.size); clear hb2))
        go_ret
        exact ⟨ret_int (by rw [HT.out, idxF_hit HD.out HN.out]), B1.out⟩
      | false =>
        have HN := Lib.hid hn
        clear hn
        go_wp2_with (first | (go_at_call 36; refine (ec_lit bn x d false _ HB1.out C1.out HN.out).mono ?_; rintro e w1 ⟨rfl, hb2⟩; have B1 := Lib.hid (belowTo bel hb2 bel.size); clear hb2))
        go_roundw
        case rel => exact ⟨i + 1, by omega, by go_num, by rw [HT.out, idxF_miss HD.out HN.out], B1.out⟩
        case measure => simp [intOf]; omega
    · have HE := Lib.hid (idxF_end (q := (fun d => decide (d.u < x))) (rs := ls) (k := i) (by omega))
      go_wp2
      go_ret
      exact ⟨ret_int (by rw [HT.out, HE.out]), bel⟩
theorem ixe_lit (v : Value) (ls : List Dn) (bn : Nat) (x : Int) (r : Int) (w : World) (sl : SlD w v ls) (hb : bn < w.heap.size) (c0 : w.cell? ⟨bn, 0, none⟩ = some (.int .i64 x)) (h : idxD (fun d => decide (d.u < x)) ls = r) :
    Calls Try.prog 32 #[v, .func (.func 36) #[] #[.pointer (some ⟨bn, 0, none⟩)]] w fun e w' => e = .returned (.int .i64 r) ∧ Below w.heap.size w w' := by
  have := ixe_any v ls bn x w sl hb c0
  rwa [h] at this

set_option linter.unusedVariables false in
set_option maxRecDepth 100000 in
set_option maxHeartbeats 2000000 in
theorem cfv_lit (v : Value) (ls : List Dn) (r : Bool) (w : World) (sl : SlD w v ls) (h : ls.any (fun d => !godB d) = r) :
    Calls Try.prog 28 #[v, .func (.func 37) #[] #[]] w fun e w' => e = .returned (.bool r) ∧ Below w.heap.size w w' := by
  rw [← idx_any] at h
  obtain ⟨F, hF⟩ : ∃ F, idxD (fun d => !godB d) ls = F := ⟨_, rfl⟩
  rw [hF] at h
  have HF := Lib.hid hF
  have HR := Lib.hid h
  have SL := Lib.hid sl
  clear hF h
  go_enter Try.func28, Try.ntmps28
  go_wp2_with (first | (go_at_call 32; refine (ixv_lit v ls F _ SL.out HF.out).mono ?_; rintro e w1 ⟨rfl, hb2⟩))
  all_goals (go_ret; exact ⟨ret_bool (by rw [← HR.out]), hb2⟩)

set_option linter.unusedVariables false in
set_option maxRecDepth 100000 in
set_option maxHeartbeats 2000000 in
theorem cfl_lit (v : Value) (ls : List Dn) (bn : Nat) (x : Int) (r : Bool) (w : World) (sl : SlD w v ls) (hb : bn < w.heap.size) (c0 : w.cell? ⟨bn, 0, none⟩ = some (.int .i64 x)) (h : ls.any (fun d => d.t == x) = r) :
    Calls Try.prog 28 #[v, .func (.func 24) #[] #[.pointer (some ⟨bn, 0, none⟩)]] w fun e w' => e = .returned (.bool r) ∧ Below w.heap.size w w' := by
  rw [← idx_any] at h
  obtain ⟨F, hF⟩ : ∃ F, idxD (fun d => d.t == x) ls = F := ⟨_, rfl⟩
  rw [hF] at h
  have HF := Lib.hid hF
  have HR := Lib.hid h
  have SL := Lib.hid sl
  clear hF h
  have C0 := Lib.hid c0
  clear c0
  go_enter Try.func28, Try.ntmps28
  go_wp2_with (first | (go_at_call 32; refine (ixl_lit v ls bn x F _ SL.out hb C0.out HF.out).mono ?_; rintro e w1 ⟨rfl, hb2⟩))
  all_goals (go_ret; exact ⟨ret_bool (by rw [← HR.out]), hb2⟩)

theorem any_good (ls : List Dn) : ls.any (fun d => !godB d) = !(ls.all godB) := by
  induction ls with
  | nil => rfl
  | cons d l ih => simp [ih, Bool.not_and]
set_option linter.unusedVariables false in
set_option maxRecDepth 100000 in
set_option maxHeartbeats 2000000 in
theorem dvalid_any (v : Value) (ls : List Dn) (w : World) (sl : SlD w v ls) : Calls Try.prog 25 #[v] w fun e w' => e = .returned (.bool (vldD ls)) ∧ Below w.heap.size w w' := by
  have SL := Lib.hid sl
  cases ht : toldB ls with
  | false =>
    have HT := Lib.hid ht
    clear ht
    go_enter Try.func25, Try.ntmps25
    go_wp2_with (first | (go_at_call 27; refine (told_lit v ls false _ SL.out HT.out).mono ?_; rintro e w1 ⟨rfl, hb2⟩))
    all_goals (go_ret; exact ⟨ret_bool (by rw [vldD, HT.out]; rfl), hb2⟩)
  | true =>
    have HT := Lib.hid ht
    obtain ⟨G, hG⟩ : ∃ G, ls.any (fun d => !godB d) = G := ⟨_, rfl⟩
    have HG := Lib.hid hG
    clear ht hG
    go_enter Try.func25, Try.ntmps25
    go_wp2_with (first | (go_at_call 27; refine (told_lit v ls true _ SL.out HT.out).mono ?_; rintro e w1 ⟨rfl, hb2⟩; have SL1 := Lib.hid (SL.out.below hb2); have B1 := Lib.hid hb2; clear hb2) | (go_at_call 28; refine (cfv_lit v ls G _ SL1.out HG.out).mono ?_; rintro e w2 ⟨rfl, hb2⟩; have B2 := Lib.hid (belowTo B1.out hb2 B1.out.size); clear hb2))
    all_goals (go_ret; exact ⟨ret_bool (by rw [vldD, HT.out, ← HG.out, any_good]; simp), B2.out⟩)
theorem dvalid_lit (v : Value) (ls : List Dn) (x : Bool) (w : World) (sl : SlD w v ls) (h : vldD ls = x) : Calls Try.prog 25 #[v] w fun e w' => e = .returned (.bool x) ∧ Below w.heap.size w w' := by
  have := dvalid_any v ls w sl
  rwa [h] at this

end Go.Proofs.Ytheifmdaladfdaa
