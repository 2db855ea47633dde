/- Contracts: down.Next; of the reference: Find, Told, Valid, Next, Same; of the laws: route, short. -/
import Derived.Test.YtheifmdaladfdaaIndex21
import Derived.WalkLawsBesides
import Derived.Deep.QuietTactic
import Derived.BigQuiet
namespace Go.Proofs.Ytheifmdaladfdaa
open Go.RowKit

/-- What Next answers. -/
def nxtB (ls : List Dn) (x : Int) : Bool := vldD ls && ls.any (fun d => d.t == x)
def nxtN (ls : List Dn) (x : Int) : Int := if nxtB ls x = true then ((ls.find? (fun d => d.t == x)).map Dn.n).getD 0 else 0
theorem nxt_of {ls : List Dn} {x : Int} {k : Nat} {r : Dn} (hv : vldD ls = true) (hk : ls[k]? = some r) (h : idxD (fun d => d.t == x) ls = (k : Int)) : nxtN ls x = r.n ∧ nxtB ls x = true := by
  rcases idx_cases (fun d => d.t == x) ls with ⟨h1, h2⟩ | ⟨k', r', h1, _, h2, h3, h4, _⟩
  · omega
  · obtain rfl : k = k' := by omega
    obtain rfl : r = r' := by rw [hk] at h1; exact Option.some.inj h1
    have hb : nxtB ls x = true := by rw [nxtB, hv, h3]; rfl
    exact ⟨by rw [nxtN, if_pos hb, h4]; rfl, hb⟩
theorem nxt_no {ls : List Dn} {x : Int} (h : vldD ls = false ∨ idxD (fun d => d.t == x) ls < 0) : nxtN ls x = 0 ∧ nxtB ls x = false := by
  have hb : nxtB ls x = false := by
    rcases h with h | h
    · rw [nxtB, h]; rfl
    · rcases idx_cases (fun d => d.t == x) ls with ⟨h1, h2⟩ | ⟨k', r', _, _, h2, _⟩
      · rw [nxtB, h2, Bool.and_false]
      · omega
  exact ⟨by rw [nxtN, hb, if_neg (by simp)], hb⟩
theorem ret_ib {a b : Int} {x y : Bool} (h : a = b ∧ x = y) : Ending.returned (.tuple #[.int .i64 a, .bool x]) = .returned (.tuple #[.int .i64 b, .bool y]) := by rw [h.1, h.2]

set_option linter.unusedVariables false in
set_option maxRecDepth 100000 in
set_option maxHeartbeats 2000000 in
theorem rfind_any (v : Value) (ls : List Dn) (x : Int) (w : World) (sl : SlD w v ls) : Calls Try.prog 22 #[v, .int .i64 x] w fun e w' => e = .returned (.int .i64 (idxD (fun d => d.t == x) ls)) ∧ w = w' := by
  obtain ⟨p, cap, e0, hlc, hcm, hpn⟩ := sl.form ls.length rfl
  subst e0
  have SL := Lib.hid sl
  unfold maxLen at hcm
  clear hpn
  go_enter Try.func22, Try.ntmps22
  go_wp2
  go_loop [5] (fun ii => ∃ (i : Nat), i ≤ ls.length ∧ ii = .int .i64 i ∧ idxD (fun d => d.t == x) ls = idxF (fun d => d.t == x) (ls.drop i) i) (fun i => ls.length - (intOf i).toNat)
  case atStart => exact ⟨0, by omega, rfl, rfl⟩
  case round =>
    obtain ⟨i, hi, rfl, hT⟩ := hrel
    have HT := Lib.hid hT
    clear hT
    by_cases hlt : i < ls.length
    · obtain ⟨d, b, off, hd, rfl, hbl, _, d0, d1, d2, d3⟩ := SL.out.at4 (Below.refl _ _) hlt
      have j0 : (0 : Int) ≤ (i : Int) := Int.natCast_nonneg _
      have j1 : (i : Int) < (ls.length : Int) := by omega
      have HD := Lib.hid hd
      clear hd
      cases hn : (d.t == x) with
      | true =>
        have HN := Lib.hid hn
        go_wp2_with fail
        go_ret
        exact ⟨ret_int (by rw [HT.out, idxF_hit HD.out HN.out]), rfl⟩
      | false =>
        have HN := Lib.hid hn
        go_wp2_with fail
        go_round
        case rel => exact ⟨i + 1, by omega, by go_num, by rw [HT.out, idxF_miss HD.out HN.out]⟩
        case measure => simp [intOf]; omega
    · have HE := Lib.hid (idxF_end (q := (fun d => d.t == x)) (rs := ls) (k := i) (by omega))
      go_wp2
      go_ret
      exact ⟨ret_int (by rw [HT.out, HE.out]), rfl⟩
theorem rfind_lit (v : Value) (ls : List Dn) (x r : Int) (w : World) (sl : SlD w v ls) (h : idxD (fun d => d.t == x) ls = r) : Calls Try.prog 22 #[v, .int .i64 x] w fun e w' => e = .returned (.int .i64 r) ∧ w = w' := by
  have := rfind_any v ls x w sl
  rwa [h] at this

theorem SlT.cellsAt {w w' : World} {p : Option Addr} {n cap : Nat} {ls : List Dn} {k : Nat} {r : Dn} (h : SlD w (.slice p n cap) ls) (hk : ls[k]? = some r) (bel : Below w.heap.size w w') : ∃ b off, p = some ⟨b, off, none⟩ ∧ w'.cell? ⟨b, off + k * 4 + 1, none⟩ = some (.int .i64 r.n) := by
  obtain ⟨a, b, off, h1, h2, _, _, h5⟩ := h.at bel (List.getElem?_eq_some_iff.1 hk).1
  obtain rfl : a = r := by rw [hk] at h1; exact (Option.some.inj h1).symm
  exact ⟨b, off, h2, h5 1 _ rfl⟩
/-- Each element of a list that can be told without a child. -/
def toldC (c : Int) (ls : List Dn) : Bool := toldB ls && ls.all (fun d => d.t != c)
theorem toldF_all {c : Int} (hc : c < 0) : ∀ (ls : List Dn) (last : Int), toldF last ls = true → ls.all (fun d => d.t != c) = true
  | [], _, _ => rfl
  | d :: l, last, h => by
    simp only [toldF, Bool.and_eq_true, nodB_iff, decide_eq_true_eq] at h
    have := toldF_all hc l d.t h.2
    simp only [List.all_cons, Bool.and_eq_true, this, and_true, bne_iff_ne]
    omega
theorem toldC_neg (ls : List Dn) : toldC (-1) ls = toldB ls := by
  unfold toldC
  cases h : toldB ls with
  | false => rfl
  | true => rw [toldF_all (by omega) ls (-1) h]; rfl
theorem toldC_step {ls : List Dn} {i : Nat} {d : Dn} {last c : Int} (h : ls[i]? = some d) :
    (toldF last (ls.drop i) && (ls.drop i).all (fun d => d.t != c)) = ((nodB d.t && decide (last < d.t) && decide (0 ≤ d.s) && decide (d.s ≤ 1000000000) && (d.t != c)) && (toldF d.t (ls.drop (i + 1)) && (ls.drop (i + 1)).all (fun d => d.t != c))) := by
  have hl : i < ls.length := (List.getElem?_eq_some_iff.1 h).1
  rw [toldF_step h, List.drop_eq_getElem_cons hl, show ls[i] = d from (List.getElem?_eq_some_iff.1 h).2]
  simp only [List.all_cons]
  cases nodB d.t <;> cases decide (last < d.t) <;> cases decide (0 ≤ d.s) <;> cases decide (d.s ≤ 1000000000) <;> cases (d.t != c) <;> simp
theorem rid_same (n : Int) (x : Bool) (w : World) (h : nodB n = x) : Calls Try.prog 30 #[.int .i64 n] w fun e w' => e = .returned (.bool x) ∧ w' = w := (rid_lit n x w h).mono fun _ _ ⟨a, b⟩ => ⟨a, b.symm⟩

set_option linter.unusedVariables false in
set_option maxRecDepth 100000 in
set_option maxHeartbeats 2000000 in
theorem rtold_any (v : Value) (ls : List Dn) (c : Int) (w : World) (sl : SlD w v ls) : Calls Try.prog 31 #[v, .int .i64 c] w fun e w' => e = .returned (.bool (toldC c ls)) ∧ Below w.heap.size w w' := by
  obtain ⟨p, cap, e0, hlc, hcm, hpn⟩ := sl.form ls.length rfl
  subst e0
  have SL := Lib.hid sl
  unfold maxLen at hcm
  clear hpn
  go_enter Try.func31, Try.ntmps31
  go_wp2
  go_loopw [5] (fun ii wr => ∃ (i : Nat) (last : Int), i ≤ ls.length ∧ ii = .int .i64 i ∧ toldC c ls = (toldF last (ls.drop i) && (ls.drop i).all (fun d => d.t != c)) ∧ (i = 0 → last = -1) ∧ (∀ m, i = m + 1 → ∃ pv, ls[m]? = some pv ∧ pv.t = last) ∧ Below w.heap.size w wr) (fun i _ => ls.length - (intOf i).toNat)
  case atStart => exact ⟨0, -1, by omega, rfl, rfl, fun _ => rfl, fun m h => by omega, Below.refl _ _⟩
  case round =>
    obtain ⟨i, last, hi, rfl, hT, hz, hs, bel⟩ := hrel
    have HT := Lib.hid hT
    have HZ := Lib.hid hz
    have HSS := Lib.hid hs
    clear hT hz hs
    by_cases hlt : i < ls.length
    · obtain ⟨d, b, off, hd, rfl, hbl, hbl2, d0, d1, d2, d3⟩ := SL.out.at4 bel hlt
      have j0 : (0 : Int) ≤ (i : Int) := Int.natCast_nonneg _
      have j1 : (i : Int) < (ls.length : Int) := by omega
      have HD := Lib.hid hd
      have HS := Lib.hid (toldC_step (last := last) (c := c) hd)
      clear hd
      cases hn : nodB d.t with
      | false =>
        have HN := Lib.hid hn
        clear hn
        go_wp2_with fail
        go_quiet ((go_at_call 30; exact Calls.quiet_of_same (rid_same d.t _ _ HN.out)))
        go_wp2_with fail
        go_ret
        exact ⟨ret_bool (by rw [HT.out, HS.out]; rw [HN.out]; rfl), belowN bel⟩
      | true =>
        have HN := Lib.hid hn
        clear hn
        cases hc : (d.t == c) with
        | true =>
          have HC := Lib.hid (show (d.t != c) = false by simpa using hc)
          go_wp2_with fail
          go_quiet ((go_at_call 30; exact Calls.quiet_of_same (rid_same d.t _ _ HN.out)))
          go_wp2_with fail
          go_ret
          exact ⟨ret_bool (by rw [HT.out, HS.out]; rw [HC.out]; simp), belowN bel⟩
        | false =>
          have HC := Lib.hid (show (d.t != c) = true by simpa using hc)
          by_cases h1 : d.s < 0
          · have k1 : decide (d.s < 0) = true := decide_eq_true h1
            have H1 := Lib.hid (show decide (0 ≤ d.s) = false from decide_eq_false (by omega))
            go_wp2_with fail
            go_quiet ((go_at_call 30; exact Calls.quiet_of_same (rid_same d.t _ _ HN.out)))
            go_wp2_with fail
            go_ret
            exact ⟨ret_bool (by rw [HT.out, HS.out]; rw [H1.out]; simp), belowN bel⟩
          · have k1 : decide (d.s < 0) = false := decide_eq_false h1
            have H1 := Lib.hid (show 0 ≤ d.s by omega)
            clear h1
            by_cases h2 : 1000000000 < d.s
            · have k2 : decide (1000000000 < d.s) = true := decide_eq_true h2
              have H2 := Lib.hid (show decide (d.s ≤ 1000000000) = false from decide_eq_false (by omega))
              go_wp2_with fail
              go_quiet ((go_at_call 30; exact Calls.quiet_of_same (rid_same d.t _ _ HN.out)))
              go_wp2_with fail
              go_ret
              exact ⟨ret_bool (by rw [HT.out, HS.out]; rw [H2.out]; simp), belowN bel⟩
            · have k2 : decide (1000000000 < d.s) = false := decide_eq_false h2
              have H2 := Lib.hid (show d.s ≤ 1000000000 by omega)
              clear h2
              by_cases h3 : i = 0
              · subst h3
                simp only [Nat.zero_mul, Nat.add_zero] at d0 d1 d2 d3
                have H3 := Lib.hid (show last < d.t by have := HZ.out rfl; have := nodB_iff.1 HN.out; omega)
                go_wp2_with fail
                go_quiet ((go_at_call 30; exact Calls.quiet_of_same (rid_same d.t _ _ HN.out)))
                go_wp2_with fail
                go_roundw
                case rel => exact ⟨0 + 1, d.t, by omega, rfl, by rw [HT.out, HS.out, HN.out, HC.out]; simp [H1.out, H2.out, H3.out], fun h => by omega, fun m h => ⟨d, by obtain rfl : m = 0 := (by omega); exact HD.out, rfl⟩, belowN bel⟩
                case measure => simp [intOf]; omega
              · obtain ⟨m, hm⟩ : ∃ m, i = m + 1 := ⟨i - 1, by omega⟩
                obtain ⟨pv, hpv, hl⟩ := HSS.out m hm
                obtain ⟨pv', b', off', hpv', e', _, _, e0, _⟩ := SL.out.at4 bel (i := m) (by omega)
                cases e'
                obtain rfl : pv = pv' := by rw [hpv] at hpv'; exact Option.some.inj hpv'
                have k3 : decide ((0 : Int) < (i : Int)) = true := decide_eq_true (by omega)
                have k4 : decide (0 < i) = true := decide_eq_true (by omega)
                have m0 : (0 : Int) ≤ (m : Int) := Int.natCast_nonneg _
                have m1 : (m : Int) < (ls.length : Int) := by omega
                have HL := Lib.hid hl
                have HM := Lib.hid (show IntKind.i64.wrap ((i : Int) - 1) = (m : Int) by rw [IntWalk.i64_in _ (by omega)]; omega)
                clear hpv hpv' hl
                have wm := HM.out
                clear hm
                by_cases h5 : d.t ≤ pv.t
                · have k5 : decide (d.t ≤ pv.t) = true := decide_eq_true h5
                  have H3 := Lib.hid (show decide (last < d.t) = false from decide_eq_false (by have := HL.out; omega))
                  go_wp2_with fail
                  go_quiet ((go_at_call 30; exact Calls.quiet_of_same (rid_same d.t _ _ HN.out)))
                  go_wp2_with fail
                  go_ret
                  exact ⟨ret_bool (by rw [HT.out, HS.out]; rw [H3.out]; simp), belowN bel⟩
                · have k5 : decide (d.t ≤ pv.t) = false := decide_eq_false h5
                  have H3 := Lib.hid (show last < d.t by have := HL.out; omega)
                  clear h5
                  go_wp2_with fail
                  go_quiet ((go_at_call 30; exact Calls.quiet_of_same (rid_same d.t _ _ HN.out)))
                  go_wp2_with fail
                  go_roundw
                  case rel => exact ⟨i + 1, d.t, by omega, by go_num, by rw [HT.out, HS.out, HN.out, HC.out]; simp [H1.out, H2.out, H3.out], fun h => by omega, fun m h => ⟨d, by obtain rfl : m = i := (by omega); exact HD.out, rfl⟩, belowN bel⟩
                  case measure => simp [intOf]; omega
    · have HE := Lib.hid (show (toldF last (ls.drop i) && (ls.drop i).all (fun d => d.t != c)) = true by rw [List.drop_of_length_le (by omega)]; rfl)
      go_wp2_with fail
      go_ret
      exact ⟨ret_bool (by rw [HT.out, HE.out]), bel⟩
theorem rtold_lit (v : Value) (ls : List Dn) (c : Int) (x : Bool) (w : World) (sl : SlD w v ls) (h : toldC c ls = x) : Calls Try.prog 31 #[v, .int .i64 c] w fun e w' => e = .returned (.bool x) ∧ Below w.heap.size w w' := by
  have := rtold_any v ls c w sl
  rwa [h] at this

set_option linter.unusedVariables false in
set_option maxRecDepth 100000 in
set_option maxHeartbeats 2000000 in
theorem rdvalid_any (v : Value) (ls : List Dn) (w : World) (sl : SlD w v ls) : Calls Try.prog 21 #[v] w fun e w' => e = .returned (.bool (vldD ls)) ∧ Below w.heap.size w w' := by
  obtain ⟨p, cap, e0, hlc, hcm, hpn⟩ := sl.form ls.length rfl
  subst e0
  have SL := Lib.hid sl
  unfold maxLen at hcm
  clear hpn
  obtain ⟨C, hC⟩ : ∃ C, toldB ls = C := ⟨_, rfl⟩
  have HC := Lib.hid ((toldC_neg ls).trans hC)
  have HV := Lib.hid (show vldD ls = (C && ls.all godB) by rw [← hC]; rfl)
  clear hC
  go_enter Try.func21, Try.ntmps21
  go_wp2
  go_loop [3] (fun ii => ∃ (i : Nat), i ≤ ls.length ∧ ii = .int .i64 i ∧ ls.all godB = (ls.drop i).all godB) (fun i => ls.length - (intOf i).toNat)
  case atStart => exact ⟨0, by omega, rfl, rfl⟩
  case round =>
    obtain ⟨i, hi, rfl, hT⟩ := hrel
    have HT := Lib.hid hT
    clear hT
    by_cases hlt : i < ls.length
    · obtain ⟨d, b, off, hd, rfl, hbl, _, d0, d1, d2, d3⟩ := SL.out.at4 (Below.refl _ _) hlt
      have j0 : (0 : Int) ≤ (i : Int) := Int.natCast_nonneg _
      have j1 : (i : Int) < (ls.length : Int) := by omega
      have HS := Lib.hid (show (ls.drop i).all godB = (godB d && (ls.drop (i + 1)).all godB) by rw [List.drop_eq_getElem_cons hlt, show ls[i] = d from (List.getElem?_eq_some_iff.1 hd).2]; rfl)
      clear hd
      cases hn : nodB d.n with
      | false =>
        have HN := Lib.hid hn
        clear hn
        go_wp2_with (first | (go_at_call 30; refine (rid_lit d.n _ _ HN.out).mono ?_; rintro e w' ⟨rfl, rfl⟩))
        go_ret
        exact ⟨ret_bool (by rw [HV.out, HT.out, HS.out, godB, HN.out]; simp), Below.refl _ _⟩
      | true =>
        have HN := Lib.hid hn
        clear hn
        by_cases h1 : 0 ≤ d.u
        · by_cases h2 : d.u ≤ 1000000000
          · go_wp2_with (first | (go_at_call 30; refine (rid_lit d.n _ _ HN.out).mono ?_; rintro e w' ⟨rfl, rfl⟩))
            go_round
            case rel => exact ⟨i + 1, by omega, by go_num, by rw [HT.out, HS.out, godB, HN.out]; simp [h1, h2]⟩
            case measure => simp [intOf]; omega
          · have H2 := Lib.hid (show decide (d.u ≤ 1000000000) = false from decide_eq_false h2)
            go_wp2_with (first | (go_at_call 30; refine (rid_lit d.n _ _ HN.out).mono ?_; rintro e w' ⟨rfl, rfl⟩))
            go_ret
            exact ⟨ret_bool (by rw [HV.out, HT.out, HS.out, godB, HN.out, H2.out]; simp), Below.refl _ _⟩
        · have H1 := Lib.hid (show decide (0 ≤ d.u) = false from decide_eq_false h1)
          go_wp2_with (first | (go_at_call 30; refine (rid_lit d.n _ _ HN.out).mono ?_; rintro e w' ⟨rfl, rfl⟩))
          go_ret
          exact ⟨ret_bool (by rw [HV.out, HT.out, HS.out, godB, HN.out, H1.out]; simp), Below.refl _ _⟩
    · have HE := Lib.hid (show (ls.drop i).all godB = true by rw [List.drop_of_length_le (by omega)]; rfl)
      go_wp2_with (first | (go_at_call 31; refine (rtold_lit _ ls (-1) C _ SL.out HC.out).mono ?_; rintro e w2 ⟨rfl, hb2⟩))
      go_ret
      exact ⟨ret_bool (by rw [HV.out, HT.out, HE.out, Bool.and_true]), hb2⟩
theorem rdvalid_lit (v : Value) (ls : List Dn) (x : Bool) (w : World) (sl : SlD w v ls) (h : vldD ls = x) : Calls Try.prog 21 #[v] w fun e w' => e = .returned (.bool x) ∧ Below w.heap.size w w' := by
  have := rdvalid_any v ls w sl
  rwa [h] at this

set_option linter.unusedVariables false in
set_option maxRecDepth 100000 in
set_option maxHeartbeats 2000000 in
theorem dnext_none (v : Value) (ls : List Dn) (x : Int) (F : Int) (w : World) (sl : SlD w v ls) (hf : idxD (fun d => d.t == x) ls = F) (h0 : F < 0) :
    Calls Try.prog 14 #[v, .int .i64 x] w fun e w' => e = .returned (.tuple #[.int .i64 0, .bool false]) ∧ Below w.heap.size w w' := by
  obtain ⟨p, cap, e0, hlc, hcm, hpn⟩ := sl.form ls.length rfl
  subst e0
  have SL := Lib.hid sl
  unfold maxLen at hcm
  clear hpn
  have HF := Lib.hid hf
  clear hf
  go_enter Try.func14, Try.ntmps14
  go_wp2_with (first | (go_at_call 32; refine (ixn_lit _ ls w.heap.size x F _ (SL.out.below (belowNew w _)) (by simp) (own_at [.int .i64 x] _ rfl |>.cell rfl) HF.out).mono ?_; rintro e w1 ⟨rfl, hb2⟩; have B1 := Lib.hid (belowTo (belowNew w _) hb2 (belowNew w _).size); have SL1 := Lib.hid (SL.out.below B1.out); clear hb2))
  all_goals (go_ret2; exact ⟨rfl, B1.out⟩)

set_option linter.unusedVariables false in
set_option maxRecDepth 100000 in
set_option maxHeartbeats 2000000 in
theorem dnext_bad (v : Value) (ls : List Dn) (x : Int) (F : Int) (w : World) (sl : SlD w v ls) (hf : idxD (fun d => d.t == x) ls = F) (h0 : 0 ≤ F) (hv : vldD ls = false) :
    Calls Try.prog 14 #[v, .int .i64 x] w fun e w' => e = .returned (.tuple #[.int .i64 0, .bool false]) ∧ Below w.heap.size w w' := by
  obtain ⟨p, cap, e0, hlc, hcm, hpn⟩ := sl.form ls.length rfl
  subst e0
  have SL := Lib.hid sl
  unfold maxLen at hcm
  clear hpn
  have HF := Lib.hid hf
  clear hf
  have HV := Lib.hid hv
  clear hv
  go_enter Try.func14, Try.ntmps14
  go_wp2_with (first | (go_at_call 32; refine (ixn_lit _ ls w.heap.size x F _ (SL.out.below (belowNew w _)) (by simp) (own_at [.int .i64 x] _ rfl |>.cell rfl) HF.out).mono ?_; rintro e w1 ⟨rfl, hb2⟩; have B1 := Lib.hid (belowTo (belowNew w _) hb2 (belowNew w _).size); have SL1 := Lib.hid (SL.out.below B1.out); clear hb2) | (go_at_call 25; refine (dvalid_lit _ ls false _ SL1.out HV.out).mono ?_; rintro e w2 ⟨rfl, hb2⟩; have B2 := Lib.hid (belowTo B1.out hb2 B1.out.size); clear hb2))
  all_goals (go_ret2; exact ⟨rfl, B2.out⟩)

set_option linter.unusedVariables false in
set_option maxRecDepth 100000 in
set_option maxHeartbeats 2000000 in
theorem dnext_yes (v : Value) (ls : List Dn) (x : Int) (k : Nat) (r : Dn) (w : World) (sl : SlD w v ls) (hf : idxD (fun d => d.t == x) ls = (k : Int)) (hk : ls[k]? = some r) (hv : vldD ls = true) :
    Calls Try.prog 14 #[v, .int .i64 x] w fun e w' => e = .returned (.tuple #[.int .i64 r.n, .bool true]) ∧ Below w.heap.size w w' := by
  obtain ⟨p, cap, e0, hlc, hcm, hpn⟩ := sl.form ls.length rfl
  subst e0
  have SL := Lib.hid sl
  unfold maxLen at hcm
  clear hpn
  have HF := Lib.hid hf
  clear hf
  have HV := Lib.hid hv
  clear hv
  have HK := Lib.hid hk
  have j0 : (0 : Int) ≤ (k : Int) := Int.natCast_nonneg _
  have j1 : (k : Int) < (ls.length : Int) := by have := (List.getElem?_eq_some_iff.1 hk).1; omega
  clear hk
  go_enter Try.func14, Try.ntmps14
  go_wp2_with (first | (go_at_call 32; refine (ixn_lit _ ls w.heap.size x k _ (SL.out.below (belowNew w _)) (by simp) (own_at [.int .i64 x] _ rfl |>.cell rfl) HF.out).mono ?_; rintro e w1 ⟨rfl, hb2⟩; have B1 := Lib.hid (belowTo (belowNew w _) hb2 (belowNew w _).size); have SL1 := Lib.hid (SL.out.below B1.out); clear hb2) | (go_at_call 25; refine (dvalid_lit _ ls true _ SL1.out HV.out).mono ?_; rintro e w2 ⟨rfl, hb2⟩; have B2 := Lib.hid (belowTo B1.out hb2 B1.out.size); clear hb2; have c2 := SL.out.cellsAt HK.out B2.out; obtain ⟨b, off, e3, d1⟩ := c2; cases e3))
  all_goals (go_ret2; exact ⟨rfl, B2.out⟩)

theorem dnext_lit (v : Value) (ls : List Dn) (x n : Int) (b : Bool) (w : World) (sl : SlD w v ls) (h : nxtN ls x = n ∧ nxtB ls x = b) :
    Calls Try.prog 14 #[v, .int .i64 x] w fun e w' => e = .returned (.tuple #[.int .i64 n, .bool b]) ∧ Below w.heap.size w w' := by
  obtain ⟨rfl, rfl⟩ := h
  rcases idx_cases (fun d => d.t == x) ls with ⟨h1, h2⟩ | ⟨k, r, hk, _, h1, _⟩
  · obtain ⟨e1, e2⟩ := nxt_no (ls := ls) (x := x) (Or.inr (by omega))
    rw [e1, e2]
    exact dnext_none v ls x _ w sl rfl (by omega)
  · cases hv : vldD ls with
    | false =>
      obtain ⟨e1, e2⟩ := nxt_no (ls := ls) (x := x) (Or.inl hv)
      rw [e1, e2]
      exact dnext_bad v ls x _ w sl rfl (by omega) hv
    | true =>
      obtain ⟨e1, e2⟩ := nxt_of hv hk h1
      rw [e1, e2]
      exact dnext_yes v ls x k r w sl h1 hk hv

set_option linter.unusedVariables false in
set_option maxRecDepth 100000 in
set_option maxHeartbeats 2000000 in
theorem rnext_none (v : Value) (ls : List Dn) (x : Int) (F : Int) (w : World) (sl : SlD w v ls) (hf : idxD (fun d => d.t == x) ls = F) (h0 : F < 0) (V : Bool) (hv : vldD ls = V) :
    Calls Try.prog 15 #[v, .int .i64 x] w fun e w' => e = .returned (.tuple #[.int .i64 0, .bool false]) ∧ Below w.heap.size w w' := by
  obtain ⟨p, cap, e0, hlc, hcm, hpn⟩ := sl.form ls.length rfl
  subst e0
  have SL := Lib.hid sl
  unfold maxLen at hcm
  clear hpn
  have HF := Lib.hid hf
  clear hf
  have HV := Lib.hid hv
  clear hv
  go_enter Try.func15, Try.ntmps15
  go_wp2_with (first | (go_at_call 22; refine (rfind_lit _ ls x F _ SL.out HF.out).mono ?_; rintro e w' ⟨rfl, rfl⟩; have SL1 := SL; have B1 := Lib.hid (Below.refl w.heap.size w)) | (go_at_call 21; refine (rdvalid_lit _ ls V _ SL1.out HV.out).mono ?_; rintro e w2 ⟨rfl, hb2⟩; have B2 := Lib.hid (belowTo B1.out hb2 B1.out.size); clear hb2))
  all_goals (go_ret2; exact ⟨rfl, B2.out⟩)

set_option linter.unusedVariables false in
set_option maxRecDepth 100000 in
set_option maxHeartbeats 2000000 in
theorem rnext_bad (v : Value) (ls : List Dn) (x : Int) (F : Int) (w : World) (sl : SlD w v ls) (hf : idxD (fun d => d.t == x) ls = F) (h0 : 0 ≤ F) (hv : vldD ls = false) :
    Calls Try.prog 15 #[v, .int .i64 x] w fun e w' => e = .returned (.tuple #[.int .i64 0, .bool false]) ∧ Below w.heap.size w w' := by
  obtain ⟨p, cap, e0, hlc, hcm, hpn⟩ := sl.form ls.length rfl
  subst e0
  have SL := Lib.hid sl
  unfold maxLen at hcm
  clear hpn
  have HF := Lib.hid hf
  clear hf
  have HV := Lib.hid hv
  clear hv
  go_enter Try.func15, Try.ntmps15
  go_wp2_with (first | (go_at_call 22; refine (rfind_lit _ ls x F _ SL.out HF.out).mono ?_; rintro e w' ⟨rfl, rfl⟩; have SL1 := SL; have B1 := Lib.hid (Below.refl w.heap.size w)) | (go_at_call 21; refine (rdvalid_lit _ ls false _ SL1.out HV.out).mono ?_; rintro e w2 ⟨rfl, hb2⟩; have B2 := Lib.hid (belowTo B1.out hb2 B1.out.size); clear hb2))
  all_goals (go_ret2; exact ⟨rfl, B2.out⟩)

set_option linter.unusedVariables false in
set_option maxRecDepth 100000 in
set_option maxHeartbeats 2000000 in
theorem rnext_yes (v : Value) (ls : List Dn) (x : Int) (k : Nat) (r : Dn) (w : World) (sl : SlD w v ls) (hf : idxD (fun d => d.t == x) ls = (k : Int)) (hk : ls[k]? = some r) (hv : vldD ls = true) :
    Calls Try.prog 15 #[v, .int .i64 x] w fun e w' => e = .returned (.tuple #[.int .i64 r.n, .bool true]) ∧ Below w.heap.size w w' := by
  obtain ⟨p, cap, e0, hlc, hcm, hpn⟩ := sl.form ls.length rfl
  subst e0
  have SL := Lib.hid sl
  unfold maxLen at hcm
  clear hpn
  have HF := Lib.hid hf
  clear hf
  have HV := Lib.hid hv
  clear hv
  have HK := Lib.hid hk
  have j0 : (0 : Int) ≤ (k : Int) := Int.natCast_nonneg _
  have j1 : (k : Int) < (ls.length : Int) := by have := (List.getElem?_eq_some_iff.1 hk).1; omega
  clear hk
  go_enter Try.func15, Try.ntmps15
  go_wp2_with (first | (go_at_call 22; refine (rfind_lit _ ls x k _ SL.out HF.out).mono ?_; rintro e w' ⟨rfl, rfl⟩; have SL1 := SL; have B1 := Lib.hid (Below.refl w.heap.size w)) | (go_at_call 21; refine (rdvalid_lit _ ls true _ SL1.out HV.out).mono ?_; rintro e w2 ⟨rfl, hb2⟩; have B2 := Lib.hid (belowTo B1.out hb2 B1.out.size); clear hb2; have c2 := SL.out.cellsAt HK.out B2.out; obtain ⟨b, off, e3, d1⟩ := c2; cases e3))
  all_goals (go_ret2; exact ⟨rfl, B2.out⟩)

theorem rnext_lit (v : Value) (ls : List Dn) (x n : Int) (b : Bool) (w : World) (sl : SlD w v ls) (h : nxtN ls x = n ∧ nxtB ls x = b) :
    Calls Try.prog 15 #[v, .int .i64 x] w fun e w' => e = .returned (.tuple #[.int .i64 n, .bool b]) ∧ Below w.heap.size w w' := by
  obtain ⟨rfl, rfl⟩ := h
  rcases idx_cases (fun d => d.t == x) ls with ⟨h1, h2⟩ | ⟨k, r, hk, _, h1, _⟩
  · obtain ⟨e1, e2⟩ := nxt_no (ls := ls) (x := x) (Or.inr (by omega))
    rw [e1, e2]
    exact rnext_none v ls x _ w sl rfl (by omega) _ rfl
  · cases hv : vldD ls with
    | false =>
      obtain ⟨e1, e2⟩ := nxt_no (ls := ls) (x := x) (Or.inl hv)
      rw [e1, e2]
      exact rnext_bad v ls x _ w sl rfl (by omega) hv
    | true =>
      obtain ⟨e1, e2⟩ := nxt_of hv hk h1
      rw [e1, e2]
      exact rnext_yes v ls x k r w sl h1 hk hv

end Go.Proofs.Ytheifmdaladfdaa
