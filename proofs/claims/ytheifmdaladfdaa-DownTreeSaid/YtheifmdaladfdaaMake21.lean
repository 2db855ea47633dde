/- Contracts of chapter 21: Same, route, short, Clone; of the reference: Expire, Tell. -/
import Derived.Test.YtheifmdaladfdaaRef21
import Derived.Laws.AppendOwn
import Derived.Lib.SliceRun
namespace Go.Proofs.Ytheifmdaladfdaa
open Go.RowKit

set_option maxRecDepth 100000 in
theorem ne_dn (r s : Dn) (x : Bool) (hx : eqD r s = x) (w : World) :
    (binOp .neq 35 (.agg #[.int .i64 r.t, .int .i64 r.n, .int .i64 r.s, .int .i64 r.u]) (.agg #[.int .i64 s.t, .int .i64 s.n, .int .i64 s.s, .int .i64 s.u])).run Try.prog w = .ok (.bool (!x)) w := by
  subst hx
  go_simp
  unfold eqD
  by_cases h0 : r.t = s.t
  · by_cases h1 : r.n = s.n
    · by_cases h2 : r.s = s.s
      · by_cases h3 : r.u = s.u <;> simp [h0, h1, h2, h3]
      · simp [h0, h1, h2]
    · simp [h0, h1]
  · simp [h0]
theorem sameD_step {ls ss : List Dn} {i : Nat} {r s : Dn} (hr : ls[i]? = some r) (hs : ss[i]? = some s) : sameD (ls.drop i) (ss.drop i) = (eqD r s && sameD (ls.drop (i + 1)) (ss.drop (i + 1))) := by
  have h1 := (List.getElem?_eq_some_iff.1 hr).1
  have h2 := (List.getElem?_eq_some_iff.1 hs).1
  rw [List.drop_eq_getElem_cons h1, List.drop_eq_getElem_cons h2, show ls[i] = r from (List.getElem?_eq_some_iff.1 hr).2, show ss[i] = s from (List.getElem?_eq_some_iff.1 hs).2]
  rfl

set_option linter.unusedVariables false in
set_option maxRecDepth 100000 in
set_option maxHeartbeats 2000000 in
theorem same_any (u v : Value) (ls ss : List Dn) (w : World) (sl : SlD w u ls) (sm : SlD w v ss) : Calls Try.prog 16 #[u, v] w fun e w' => e = .returned (.bool (sameD ls ss)) ∧ Below w.heap.size w w' := by
  obtain ⟨p, cap, e, hlc, hcm, hpn⟩ := sl.form ls.length rfl
  subst e
  have SL := Lib.hid sl
  unfold maxLen at hcm
  clear hpn
  obtain ⟨p2, cap2, e2, hlc2, hcm2, hpn2⟩ := sm.form ss.length rfl
  subst e2
  have SM := Lib.hid sm
  unfold maxLen at hcm2
  clear hpn2
  by_cases hL : ls.length = ss.length
  · have hL1 : ((ls.length : Int) != (ss.length : Int)) = false := by simp [hL]
    have hL2 : ss.length ≤ ls.length := by omega
    have HL := Lib.hid hL
    clear hL
    go_enter Try.func16, Try.ntmps16
    go_wp2
    go_loopw [5] (fun ii wr => ∃ (i : Nat), i ≤ ls.length ∧ ii = .int .i64 i ∧ sameD ls ss = sameD (ls.drop i) (ss.drop i) ∧ Below w.heap.size w wr) (fun i _ => ls.length - (intOf i).toNat)
    case atStart => exact ⟨0, by omega, rfl, rfl, Below.refl _ _⟩
    case round =>
      obtain ⟨i, hi, rfl, hT, bel⟩ := hrel
      have HT := Lib.hid hT
      clear hT
      by_cases hlt : i < ls.length
      · obtain ⟨d, b, off, hd, rfl, hbl, _, d0, d1, d2, d3⟩ := SL.out.at4 bel hlt
        have hlt2 : i < ss.length := by rw [← HL.out]; exact hlt
        obtain ⟨d', b', off', hd', rfl, hbl', _, g0, g1, g2, g3⟩ := SM.out.at4 bel hlt2
        have j0 : (0 : Int) ≤ (i : Int) := Int.natCast_nonneg _
        have j1 : (i : Int) < (ls.length : Int) := by omega
        have j2 : (i : Int) < (ss.length : Int) := by omega
        have HS := Lib.hid (sameD_step hd hd')
        clear hd hd'
        cases hx : eqD d d' with
        | true =>
          have ne := ne_dn d d' true hx
          have HX := Lib.hid hx
          clear hx
          go_wp2_with fail
          go_quiet (fail)
          go_wp2_with fail
          go_roundw
          case rel => exact ⟨i + 1, by omega, by go_num, by rw [HT.out, HS.out, HX.out, Bool.true_and], belowN bel⟩
          case measure => simp [intOf]; omega
        | false =>
          have ne := ne_dn d d' false hx
          have HX := Lib.hid hx
          clear hx
          go_wp2_with fail
          go_quiet (fail)
          go_wp2_with fail
          go_ret
          exact ⟨ret_bool (by rw [HT.out, HS.out, HX.out]; rfl), belowN bel⟩
      · have HE := Lib.hid (show sameD (ls.drop i) (ss.drop i) = true by rw [List.drop_of_length_le (by omega), List.drop_of_length_le (by have := HL.out; omega)]; rfl)
        go_wp2_with fail
        go_ret
        exact ⟨ret_bool (by rw [HT.out, HE.out]), bel⟩
  · have hL1 : ((ls.length : Int) != (ss.length : Int)) = true := by simp; omega
    have HL := Lib.hid (sameD_len hL)
    clear hL
    go_enter Try.func16, Try.ntmps16
    go_wp2
    go_ret
    exact ⟨ret_bool HL.out.symm, Below.refl _ _⟩
theorem same_lit (u v : Value) (ls ss : List Dn) (x : Bool) (w : World) (sl : SlD w u ls) (sm : SlD w v ss) (h : sameD ls ss = x) : Calls Try.prog 16 #[u, v] w fun e w' => e = .returned (.bool x) ∧ Below w.heap.size w w' := by
  have := same_any u v ls ss w sl sm
  rwa [h] at this

set_option linter.unusedVariables false in
set_option maxRecDepth 100000 in
set_option maxHeartbeats 2000000 in
theorem route_any (a b c d : Int) (w : World) : Calls Try.prog 23 #[.int .i64 a, .int .i64 b, .int .i64 c, .int .i64 d] w fun e w' => e = .returned (.agg #[.int .i64 a, .int .i64 b, .int .i64 c, .int .i64 d]) ∧ Below w.heap.size w w' := by
  go_enter Try.func23, Try.ntmps23
  go_wp2
  refine bodyPost_ret (v := .agg #[.int .i64 a, .int .i64 b, .int .i64 c, .int .i64 d]) (by simp [results, Try.results23, go_sem, *]) rfl ⟨rfl, ?_⟩
  repeat (first | (with_reducible exact Below.refl _ _) | (with_reducible refine belowSet' ?_ _ _ _ ?_) | (with_reducible refine Below.drew ?_) | (with_reducible refine belowN ?_) | (with_reducible refine Below.alloc ?_ ?_ _))
  all_goals (first | omega | (simp; omega) | (simp; done))

set_option linter.unusedVariables false in
set_option maxRecDepth 100000 in
set_option maxHeartbeats 2000000 in
theorem short_any (u v : Value) (ls ss : List Dn) (w : World) (sl : SlD w u ls) (sm : SlD w v ss) : Calls Try.prog 11 #[u, v] w fun e w' => e = .returned (.bool (decide (ls.length ≤ 70) && decide (ss.length ≤ 70))) ∧ w = w' := by
  obtain ⟨p, cap, e, hlc, hcm, hpn⟩ := sl.form ls.length rfl
  subst e
  have SL := Lib.hid sl
  unfold maxLen at hcm
  clear hpn
  obtain ⟨p2, cap2, e2, hlc2, hcm2, hpn2⟩ := sm.form ss.length rfl
  subst e2
  have SM := Lib.hid sm
  unfold maxLen at hcm2
  clear hpn2
  by_cases h : ls.length ≤ 70
  · have HL := Lib.hid (show decide (ls.length ≤ 70) = true by simpa using h)
    go_enter Try.func11, Try.ntmps11
    go_wp2
    all_goals (go_ret; exact ⟨ret_bool (by first | rfl | (rw [HL.out]; rfl) | (rw [HL.out]; exact decide_eq_decide.2 (by omega)) | (exact decide_eq_decide.2 (by omega)) | (rw [HL.out, Bool.true_and]; first | rfl | exact decide_eq_decide.2 (by omega))), rfl⟩)
  · have HL := Lib.hid (show decide (ls.length ≤ 70) = false by simpa using h)
    go_enter Try.func11, Try.ntmps11
    go_wp2
    all_goals (go_ret; exact ⟨ret_bool (by first | rfl | (rw [HL.out]; rfl) | (rw [HL.out]; exact decide_eq_decide.2 (by omega)) | (exact decide_eq_decide.2 (by omega)) | (rw [HL.out, Bool.true_and]; first | rfl | exact decide_eq_decide.2 (by omega))), rfl⟩)
theorem short_lit (u v : Value) (ls ss : List Dn) (x : Bool) (w : World) (sl : SlD w u ls) (sm : SlD w v ss) (h : (decide (ls.length ≤ 70) && decide (ss.length ≤ 70)) = x) : Calls Try.prog 11 #[u, v] w fun e w' => e = .returned (.bool x) ∧ w = w' := by
  have := short_any u v ls ss w sl sm
  rwa [h] at this

theorem info_dn : (Try.prog.info? 35).map (fun i => (i.zero, i.size, i.bytes)) = some (some (.agg #[.int .i64 0, .int .i64 0, .int .i64 0, .int .i64 0]), 4, 32) := by kernel_rfl
/-- A slice of the call's own is returned. -/
def OwnD (w : World) (ls : List Dn) (e : Ending) (w' : World) : Prop := ∃ v', e = .returned v' ∧ w'.ownsRow w.heap.size 35 4 v' ls.length (flatT dnL ls) ∧ Below w.heap.size w w'
/-- A slice is returned. -/
def SlP (w : World) (ls : List Dn) (e : Ending) (w' : World) : Prop := ∃ v', e = .returned v' ∧ SlD w' v' ls ∧ Below w.heap.size w w'
theorem OwnD.slp {w w' : World} {ls : List Dn} {e : Ending} (h : OwnD w ls e w') : SlP w ls e w' := by
  obtain ⟨v', e, o, b⟩ := h
  exact ⟨v', e, slt_of_own (L := dnL) o, b⟩
theorem eql_nil (w : World) (a : Option Addr) (n c n' c' : Nat) : (binOp .eql 22 (.slice a n c) (.slice none n' c')).run Try.prog w = .ok (.bool a.isNone) w :=
  Lib.run_eql_slice_nil w _ 35 a n c n' c' (by kernel_rfl)

set_option linter.unusedVariables false in
set_option maxRecDepth 100000 in
set_option maxHeartbeats 2000000 in
theorem clone_any (v : Value) (ls : List Dn) (w : World) (sl : SlD w v ls) (h40 : ls.length ≤ 1000) :
    Calls Try.prog 35 #[v] w fun e w' => OwnD w ls e w' := by
  obtain ⟨p, cap, e0, hlc, hcm, hpn⟩ := sl.form ls.length rfl
  subst e0
  have OL := Lib.hid ((sl.below (belowNew w (.cells #[] 35))).olds)
  have HN := Lib.hid sl.none_len
  have q := eql_nil
  unfold maxLen at hcm
  clear hpn sl
  obtain ⟨i0, hi, hz, hs0, hb0⟩ := info_parts info_dn
  go_enter Try.func35, Try.ntmps35
  cases p with
  | none =>
    obtain rfl : ls = [] := HN.out rfl
    go_wp2
    go_ret
    exact ⟨_, rfl, World.ownsRow_nil _ _ _ _, Below.refl _ _⟩
  | some ad =>
    go_wp2_with (at_builtin; refine wpList_append_own _ rfl _ _ 22 rfl w.heap.size 35 i0 _ 4 32 (by kernel_rfl) hi hz hs0 hb0 rfl (by decide) _ _ _ rfl (World.ownsRow_made w #[] 0 (Nat.le_refl _) (Nat.zero_le _) (by simp)) ad ls.length cap (flatT dnL ls) rfl (flatT_len ls) (OL.out ad rfl) flatT_cell ?qc4 ?qc5 ?qc6 ?_)
    case qc4 => unfold maxLen; omega
    case qc5 => omega
    case qc6 => simp
    intro v' w1 hown hgrow hnil
    have HO := Lib.hid hown
    have HB := Lib.hid (((Below.refl _ w).alloc (Nat.le_refl _) _).grown hgrow (by simp) (by intro k hk; simp [Value.ownBlock] at hk; omega))
    clear hown hgrow hnil
    go_wp2
    go_ret
    exact ⟨v', rfl, by simpa using HO.out, HB.out⟩

theorem take_filtD {f : Dn → Bool} {rs : List Dn} {i : Nat} {x : Dn} (h : rs[i]? = some x) : (rs.take (i + 1)).filter f = (rs.take i).filter f ++ if f x then [x] else [] := by
  have hi : i < rs.length := (List.getElem?_eq_some_iff.1 h).1
  rw [List.take_succ_eq_append_getElem hi, List.filter_append, show rs[i] = x from (List.getElem?_eq_some_iff.1 h).2]
  cases e : f x
  · rw [List.filter_cons_of_neg (by simp [e])]; rfl
  · rw [List.filter_cons_of_pos (by simp [e])]; rfl
/-- What Expire and Tell leave. -/
def expL (ls : List Dn) (x : Int) : List Dn := if vldD ls = true then ls.filter (fun d => !decide (d.u < x)) else []
def telD (d : Dn) : Dn := ⟨d.t, 0, d.s, 0⟩
def telL (ls : List Dn) : List Dn := if vldD ls = true then ls.map telD else []

set_option linter.unusedVariables false in
set_option maxRecDepth 100000 in
set_option maxHeartbeats 2000000 in
theorem rexp_bad (v : Value) (ls : List Dn) (x : Int) (w : World) (sl : SlD w v ls) (h70 : ls.length ≤ 70) (hv : vldD ls = false) :
    Calls Try.prog 18 #[v, .int .i64 x] w fun e w' => SlP w (expL ls x) e w' := by
  obtain ⟨p, cap, e, hlc, hcm, hpn⟩ := sl.form ls.length rfl
  subst e
  have SL := Lib.hid sl
  unfold maxLen at hcm
  clear hpn
  have HV := Lib.hid hv
  clear hv
  go_enter Try.func18, Try.ntmps18
  go_wp2_with (first | (go_at_call 21; refine (rdvalid_lit _ ls false _ SL.out HV.out).mono ?_; rintro e w1 ⟨rfl, hb2⟩; have B1 := Lib.hid hb2; clear hb2))
  go_ret
  exact ⟨_, rfl, by rw [expL, HV.out, if_neg (by simp)]; exact slt_nil _, B1.out⟩

set_option linter.unusedVariables false in
set_option maxRecDepth 100000 in
set_option maxHeartbeats 2000000 in
theorem rexp_good (v : Value) (ls : List Dn) (x : Int) (w : World) (sl : SlD w v ls) (h70 : ls.length ≤ 70) (hv : vldD ls = true) :
    Calls Try.prog 18 #[v, .int .i64 x] w fun e w' => SlP w (expL ls x) e w' := by
  obtain ⟨p, cap, e, hlc, hcm, hpn⟩ := sl.form ls.length rfl
  subst e
  have SL := Lib.hid sl
  unfold maxLen at hcm
  clear hpn
  have HV := Lib.hid hv
  clear hv
  obtain ⟨i0, hi, hz, hs0, hb0⟩ := info_parts info_dn
  have IF := Lib.hid (And.intro hi (And.intro hz (And.intro hs0 hb0)))
  clear hi hz hs0 hb0
  go_enter Try.func18, Try.ntmps18
  go_wp2_with (first | (go_at_call 21; refine (rdvalid_lit _ ls true _ SL.out HV.out).mono ?_; rintro e w1 ⟨rfl, hb2⟩; have B1 := Lib.hid hb2; clear hb2))
  go_loopw [5, 6] (fun out ii wr => ∃ (i : Nat) (qs : List Dn), i ≤ ls.length ∧ ii = .int .i64 i ∧ qs = (ls.take i).filter (fun d => !decide (d.u < x)) ∧ wr.ownsRow w1.heap.size 35 4 out qs.length (flatT dnL qs) ∧ Below w1.heap.size w1 wr) (fun _ i _ => ls.length - (intOf i).toNat)
  case atStart => exact ⟨0, [], by omega, rfl, by simp, World.ownsRow_nil _ _ _ _, Below.refl _ _⟩
  case round =>
    obtain ⟨i, qs, hi, rfl, hq, hown, bel⟩ := hrel
    have HQ := Lib.hid hq
    have hq70 : qs.length ≤ 70 := by have h1 := List.length_filter_le (fun d => !decide (d.u < x)) (ls.take i); have h2 := List.length_take_le' i ls; rw [← hq] at h1; omega
    have HOWN := Lib.hid hown
    have BE := Lib.hid bel
    have hwz := bel.size
    have BT := Lib.hid (B1.out.trans (bel.mono B1.out.size))
    clear hq hown bel
    by_cases hlt : i < ls.length
    · obtain ⟨d, b, off, hd, rfl, hbl, _, d0, d1, d2, d3⟩ := SL.out.at4 BT.out hlt
      have j0 : (0 : Int) ≤ (i : Int) := Int.natCast_nonneg _
      have j1 : (i : Int) < (ls.length : Int) := by omega
      have HD := Lib.hid hd
      clear hd
      by_cases hux : d.u < x
      · have HU := Lib.hid hux
        go_wp2_with fail
        go_roundw
        case rel => exact ⟨i + 1, qs, by omega, by go_num, by rw [take_filtD HD.out]; simp [HQ.out, HU.out], HOWN.out, BE.out⟩
        case measure => simp [intOf]; omega
      · have HU := Lib.hid hux
        go_wp2_with (at_builtin; refine wpList_append_own _ rfl _ _ 22 rfl w1.heap.size 35 i0 _ 4 32 (by kernel_rfl) IF.out.1 IF.out.2.1 IF.out.2.2.1 IF.out.2.2.2 rfl (by decide) _ qs.length (flatT dnL qs) rfl (HOWN.out.alloc _) ⟨wr.heap.size, 0, none⟩ 1 1 (dnL.f d) rfl rfl (newsT (L := dnL) wr d 35) (dnL.one _) ?qc4 ?qc5 ?qc6 ?_)
        case qc4 => unfold maxLen; omega
        case qc5 => omega
        case qc6 => first | omega | (simp; omega)
        intro v2 w2 hown hgrow hnil
        have B2 := Lib.hid ((BE.out.alloc BE.out.size (.cells (dnL.f d).toArray 35)).grown hgrow (by simp; omega) (fun k hk => (HOWN.out.lt k hk).1))
        have H2 := Lib.hid hown
        clear hown hgrow hnil
        go_wp2_with fail
        go_roundw
        case rel => exact ⟨i + 1, qs ++ [d], by omega, by go_num, by rw [take_filtD HD.out]; simp [HQ.out, HU.out], by have := H2.out; rw [flatT_append, flatT_one]; simpa using this, B2.out⟩
        case measure => simp [intOf]; omega
    · have HE := Lib.hid (show qs = expL ls x by rw [expL, if_pos HV.out, HQ.out, List.take_of_length_le (by omega)])
      go_wp2_with fail
      go_ret
      exact ⟨_, rfl, by rw [← HE.out]; exact slt_of_own (L := dnL) HOWN.out, BT.out⟩

end Go.Proofs.Ytheifmdaladfdaa
