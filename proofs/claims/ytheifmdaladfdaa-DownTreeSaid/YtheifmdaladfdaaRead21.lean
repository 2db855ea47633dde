/- Contracts of package down: node, told, valid; of the reference: id, Told, Valid, Find. -/
import Derived.Test.YtheifmdaladfdaaProg
import Derived.Test.YtheifmdaladfdaaPlain21
import Derived.WalkKit
import Derived.IntWalk
namespace Go.Proofs.Ytheifmdaladfdaa
open Go.RowKit

set_option linter.unusedVariables false in
set_option maxRecDepth 100000 in
set_option maxHeartbeats 2000000 in
theorem node_any (n : Int) (w : World) : Calls Try.prog 26 #[.int .i64 n] w fun e w' => e = .returned (.bool (nodB n)) ∧ w = w' := by
  by_cases h0 : 0 ≤ n
  · have : nodB n = decide (n < 60) := by simp [nodB, h0]
    have HN := Lib.hid this
    clear this
    go_enter Try.func26, Try.ntmps26
    go_wp2
    all_goals (go_ret; exact ⟨ret_bool (by rw [HN.out]), rfl⟩)
  · have : nodB n = false := by simp [nodB]; omega
    have HN := Lib.hid this
    clear this
    go_enter Try.func26, Try.ntmps26
    go_wp2
    all_goals (go_ret; exact ⟨ret_bool (by rw [HN.out]), rfl⟩)
theorem node_lit (n : Int) (x : Bool) (w : World) (h : nodB n = x) : Calls Try.prog 26 #[.int .i64 n] w fun e w' => e = .returned (.bool x) ∧ w = w' := by
  have := node_any n w
  rwa [h] at this

set_option linter.unusedVariables false in
set_option maxRecDepth 100000 in
set_option maxHeartbeats 2000000 in
theorem rid_any (n : Int) (w : World) : Calls Try.prog 30 #[.int .i64 n] w fun e w' => e = .returned (.bool (nodB n)) ∧ w = w' := by
  by_cases h0 : 0 ≤ n
  · have : nodB n = decide (n < 60) := by simp [nodB, h0]
    have HN := Lib.hid this
    clear this
    go_enter Try.func30, Try.ntmps30
    go_wp2
    all_goals (go_ret; exact ⟨ret_bool (by rw [HN.out]), rfl⟩)
  · have : nodB n = false := by simp [nodB]; omega
    have HN := Lib.hid this
    clear this
    go_enter Try.func30, Try.ntmps30
    go_wp2
    all_goals (go_ret; exact ⟨ret_bool (by rw [HN.out]), rfl⟩)
theorem rid_lit (n : Int) (x : Bool) (w : World) (h : nodB n = x) : Calls Try.prog 30 #[.int .i64 n] w fun e w' => e = .returned (.bool x) ∧ w = w' := by
  have := rid_any n w
  rwa [h] at this

set_option linter.unusedVariables false in
set_option maxRecDepth 100000 in
set_option maxHeartbeats 2000000 in
theorem told_any (v : Value) (ls : List Dn) (w : World) (sl : SlD w v ls) : Calls Try.prog 27 #[v] w fun e w' => e = .returned (.bool (toldB ls)) ∧ Below w.heap.size w w' := by
  obtain ⟨p, cap, e0, hlc, hcm, hpn⟩ := sl.form ls.length rfl
  subst e0
  have SL := Lib.hid sl
  unfold maxLen at hcm
  clear hpn
  go_enter Try.func27, Try.ntmps27
  go_wp2
  go_loopw [3, 8] (fun la ii wr => ∃ (i : Nat) (last : Int), i ≤ ls.length ∧ ii = .int .i64 i ∧ la = .int .i64 last ∧ toldB ls = toldF last (ls.drop i) ∧ Below w.heap.size w wr) (fun _ i _ => ls.length - (intOf i).toNat)
  case atStart => exact ⟨0, -1, by omega, rfl, rfl, rfl, Below.refl _ _⟩
  case round =>
    obtain ⟨i, last, hi, rfl, rfl, hT, bel⟩ := hrel
    have HT := Lib.hid hT
    clear hT
    by_cases hlt : i < ls.length
    · obtain ⟨d, b, off, hd, rfl, hbl, _, d0, d1, d2, d3⟩ := SL.out.at4 bel hlt
      have j0 : (0 : Int) ≤ (i : Int) := Int.natCast_nonneg _
      have j1 : (i : Int) < (ls.length : Int) := by omega
      have HS := Lib.hid (toldF_step (last := last) hd)
      clear hd
      cases hn : nodB d.t with
      | false =>
        have HN := Lib.hid hn
        clear hn
        go_wp2_with (first | (go_at_call 26; refine (node_lit d.t false _ HN.out).mono ?_; rintro e w' ⟨rfl, rfl⟩))
        go_ret
        exact ⟨ret_bool (by rw [HT.out, HS.out, HN.out]; simp), bel.alloc bel.size _⟩
      | true =>
        have HN := Lib.hid hn
        clear hn
        by_cases q : last < d.t ∧ 0 ≤ d.s ∧ d.s ≤ 1000000000
        · obtain ⟨q1, q2, q3⟩ := q
          go_wp2_with (first | (go_at_call 26; refine (node_lit d.t true _ HN.out).mono ?_; rintro e w' ⟨rfl, rfl⟩))
          go_roundw
          case rel => exact ⟨i + 1, d.t, by omega, by go_num, rfl, by rw [HT.out, HS.out, HN.out]; simp [q1, q2, q3], bel.alloc bel.size _⟩
          case measure => simp [intOf]; omega
        · have HQ := Lib.hid (show (decide (last < d.t) && decide (0 ≤ d.s) && decide (d.s ≤ 1000000000)) = false by rw [← Bool.not_eq_true]; simp only [Bool.and_eq_true, decide_eq_true_eq]; rintro ⟨⟨q1, q2⟩, q3⟩; exact q ⟨q1, q2, q3⟩)
          have q4 : ¬ (last < d.t ∧ 0 ≤ d.s ∧ d.s ≤ 1000000000) := q
          clear q
          by_cases r1 : last < d.t
          · by_cases r2 : 0 ≤ d.s
            · have r3 : 1000000000 < d.s := by omega
              clear q4
              go_wp2_with (first | (go_at_call 26; refine (node_lit d.t true _ HN.out).mono ?_; rintro e w' ⟨rfl, rfl⟩))
              go_ret
              exact ⟨ret_bool (by rw [HT.out, HS.out, HN.out, Bool.true_and, HQ.out]; rfl), bel.alloc bel.size _⟩
            · clear q4
              go_wp2_with (first | (go_at_call 26; refine (node_lit d.t true _ HN.out).mono ?_; rintro e w' ⟨rfl, rfl⟩))
              go_ret
              exact ⟨ret_bool (by rw [HT.out, HS.out, HN.out, Bool.true_and, HQ.out]; rfl), bel.alloc bel.size _⟩
          · clear q4
            go_wp2_with (first | (go_at_call 26; refine (node_lit d.t true _ HN.out).mono ?_; rintro e w' ⟨rfl, rfl⟩))
            go_ret
            exact ⟨ret_bool (by rw [HT.out, HS.out, HN.out, Bool.true_and, HQ.out]; rfl), bel.alloc bel.size _⟩
    · have HE := Lib.hid (toldF_end (rs := ls) (k := i) (last := last) (by omega))
      go_wp2
      go_ret
      exact ⟨ret_bool (by rw [HT.out, HE.out]), bel⟩
theorem told_lit (v : Value) (ls : List Dn) (x : Bool) (w : World) (sl : SlD w v ls) (h : toldB ls = x) : Calls Try.prog 27 #[v] w fun e w' => e = .returned (.bool x) ∧ Below w.heap.size w w' := by
  have := told_any v ls w sl
  rwa [h] at this

set_option linter.unusedVariables false in
set_option maxRecDepth 100000 in
set_option maxHeartbeats 2000000 in
theorem good_any (d : Dn) (w : World) : Calls Try.prog 37 #[.agg #[.int .i64 d.t, .int .i64 d.n, .int .i64 d.s, .int .i64 d.u]] w fun e w' => e = .returned (.bool (!godB d)) ∧ Below w.heap.size w w' := by
  generalize hn : d.n = n at *
  generalize hu : d.u = u at *
  have HG := Lib.hid (show godB d = (nodB n && decide (0 ≤ u) && decide (u ≤ 1000000000)) by rw [← hn, ← hu]; rfl)
  clear hn hu
  cases hb : nodB n with
  | false =>
    have HN := Lib.hid hb
    clear hb
    by_cases h0 : 0 ≤ u
    · by_cases h1 : u ≤ 1000000000
      · go_enter Try.func37, Try.ntmps37
        go_wp2_with (first | (go_at_call 26; refine (node_lit n false _ HN.out).mono ?_; rintro e w' ⟨rfl, rfl⟩))
        all_goals (go_ret; exact ⟨ret_bool (by rw [HG.out, HN.out]; simp []), belowNew w _⟩)
      · go_enter Try.func37, Try.ntmps37
        go_wp2_with (first | (go_at_call 26; refine (node_lit n false _ HN.out).mono ?_; rintro e w' ⟨rfl, rfl⟩))
        all_goals (go_ret; exact ⟨ret_bool (by rw [HG.out, HN.out]; simp []), belowNew w _⟩)
    · go_enter Try.func37, Try.ntmps37
      go_wp2_with (first | (go_at_call 26; refine (node_lit n false _ HN.out).mono ?_; rintro e w' ⟨rfl, rfl⟩))
      all_goals (go_ret; exact ⟨ret_bool (by rw [HG.out, HN.out]; simp []), belowNew w _⟩)
  | true =>
    have HN := Lib.hid hb
    clear hb
    by_cases h0 : 0 ≤ u
    · by_cases h1 : u ≤ 1000000000
      · go_enter Try.func37, Try.ntmps37
        go_wp2_with (first | (go_at_call 26; refine (node_lit n true _ HN.out).mono ?_; rintro e w' ⟨rfl, rfl⟩))
        all_goals (go_ret; exact ⟨ret_bool (by rw [HG.out, HN.out]; simp [h0, h1]), belowNew w _⟩)
      · go_enter Try.func37, Try.ntmps37
        go_wp2_with (first | (go_at_call 26; refine (node_lit n true _ HN.out).mono ?_; rintro e w' ⟨rfl, rfl⟩))
        all_goals (go_ret; exact ⟨ret_bool (by rw [HG.out, HN.out]; simp [h0, h1]), belowNew w _⟩)
    · go_enter Try.func37, Try.ntmps37
      go_wp2_with (first | (go_at_call 26; refine (node_lit n true _ HN.out).mono ?_; rintro e w' ⟨rfl, rfl⟩))
      all_goals (go_ret; exact ⟨ret_bool (by rw [HG.out, HN.out]; simp [h0]), belowNew w _⟩)

end Go.Proofs.Ytheifmdaladfdaa
