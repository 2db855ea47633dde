/- The contracts of package queue: name, formed, find; of the reference: Formed, Find. -/
import Derived.Test.YtlfdbmndikdhdaaPlain27
import Derived.Test.YtlfdbmndikdhdaaRows
import Derived.ChangeKeysEq
namespace Go.Proofs.Ytlfdbmndikdhdaa
open Go.RowKit

theorem own5r {w : World} {b : Nat} {t : TypeId} {x0 x1 x2 x3 x4 : Value} (h : Own w b [x0, x1, x2, x3, x4] t) : w.cell? ⟨b, 0, none⟩ = some x0 ∧ w.cell? ⟨b, 1, none⟩ = some x1 ∧ w.cell? ⟨b, 2, none⟩ = some x2 ∧ w.cell? ⟨b, 3, none⟩ = some x3 ∧ w.cell? ⟨b, 4, none⟩ = some x4 ∧ (∀ o, w.frozen? ⟨b, o, none⟩ = false) ∧ b < w.heap.size := ⟨h.cell rfl, h.cell rfl, h.cell rfl, h.cell rfl, h.cell rfl, h.frozen, h.lt⟩

set_option maxRecDepth 100000 in
set_option maxHeartbeats 1000000 in
theorem name_any (o n k v a : Int) (w : World) :
    Calls Try.prog 27 #[.agg #[.int .i64 o, .int .i64 n, .int .i64 k, .int .i64 v, .int .i64 a]] w fun e w' => e = .returned (.agg #[.int .i64 o, .int .i64 n]) ∧ Below w.heap.size w w' := by
  go_enter Try.func27, Try.ntmps27
  go_wp2
  refine bodyPost_ret (v := .agg #[.int .i64 o, .int .i64 n]) (by simp [results, Try.results27, go_sem, *]) rfl ⟨rfl, ?_⟩
  repeat (first | exact Below.refl _ _ | exact belowNew _ _ | refine Below.setCell ?_ (by simp) _ | refine Below.alloc ?_ (by simp) _)

set_option maxRecDepth 100000 in
set_option maxHeartbeats 2000000 in
theorem formed_any (r : Rd) (w : World) :
    Calls Try.prog 25 #[.agg #[.int .i64 r.o, .int .i64 r.n, .int .i64 r.k, .int .i64 r.v, .int .i64 r.a]] w fun e w' => e = .returned (.bool (fmB r)) ∧ Below w.heap.size w w' := by
  obtain ⟨o, n, k, v, a⟩ := r
  go_enter Try.func25, Try.ntmps25
  go_wp2
  all_goals (go_ret; refine ⟨ret_bool ?_, belowNew _ _⟩; refine Bool.eq_iff_iff.2 ?_; rw [fmB_iff]; simp; try omega)

set_option maxRecDepth 100000 in
set_option maxHeartbeats 2000000 in
theorem rformed_any (r : Rd) (w : World) :
    Calls Try.prog 21 #[.agg #[.int .i64 r.o, .int .i64 r.n, .int .i64 r.k, .int .i64 r.v, .int .i64 r.a]] w fun e w' => e = .returned (.bool (fmB r)) ∧ Below w.heap.size w w' := by
  obtain ⟨o, n, k, v, a⟩ := r
  go_enter Try.func21, Try.ntmps21
  go_wp2
  all_goals (go_ret; refine ⟨ret_bool ?_, belowNew _ _⟩; refine Bool.eq_iff_iff.2 ?_; rw [fmB_iff]; simp; try omega)

theorem info_int : (Try.prog.info? 3).map (·.size) = some 1 := by kernel_rfl
theorem cells_int : Try.prog.cellsOf 3 = 1 := by kernel_rfl
theorem eq_name (o n o' n' : Int) (r : Bool) (hr : (o == o' && n == n') = r) (w : World) :
    (binOp .eql 48 (.agg #[.int .i64 o, .int .i64 n]) (.agg #[.int .i64 o', .int .i64 n'])).run Try.prog w = .ok (.bool r) w := by
  subst hr
  obtain ⟨i, hi, _⟩ := Option.map_eq_some_iff.1 info_int
  go_simp
  rw [run_equalIn_array w 9999 (t := 48) (e := 3) (n := 2) (i := i) _ _ (by kernel_rfl) hi, cells_int]
  simp [Op.eqItems, List.range, List.range.loop, go_sem, *]
  by_cases h0 : o = o'
  · by_cases h1 : n = n' <;> simp [h0, h1]
  · simp [h0]

set_option maxRecDepth 100000 in
set_option maxHeartbeats 2000000 in
/-- The closure that find hands over. -/
theorem same_name (bn : Nat) (o n : Int) (r : Rd) (x : Bool) (w : World) (hb : bn < w.heap.size) (c0 : w.cell? ⟨bn, 0, none⟩ = some (.int .i64 o)) (c1 : w.cell? ⟨bn, 1, none⟩ = some (.int .i64 n)) (hx : isB o n r = x) :
    Calls Try.prog 31 #[.agg #[.int .i64 r.o, .int .i64 r.n, .int .i64 r.k, .int .i64 r.v, .int .i64 r.a], .pointer (some ⟨bn, 0, none⟩)] w fun e w' => e = .returned (.bool x) ∧ Below w.heap.size w w' := by
  have he := eq_name r.o r.n o n x hx
  generalize r.o = ro at *
  generalize r.n = rn at *
  generalize r.k = rk at *
  generalize r.v = rv at *
  generalize r.a = ra at *
  clear hx
  go_enter Try.func31, Try.ntmps31
  go_wp2_with fail
  have oR : Own (w.alloc (.cells #[.int .i64 ro, .int .i64 rn, .int .i64 rk, .int .i64 rv, .int .i64 ra] 26)) w.heap.size [.int .i64 ro, .int .i64 rn, .int .i64 rk, .int .i64 rv, .int .i64 ra] 26 := own_at _ _ rfl
  have bel := belowNew w (.cells #[.int .i64 ro, .int .i64 rn, .int .i64 rk, .int .i64 rv, .int .i64 ra] 26)
  have d0 : (w.alloc (.cells #[.int .i64 ro, .int .i64 rn, .int .i64 rk, .int .i64 rv, .int .i64 ra] 26)).cell? ⟨bn, 0, none⟩ = some (.int .i64 o) := by rw [bel.cell (p := ⟨bn, 0, none⟩) hb]; exact c0
  have d1 : (w.alloc (.cells #[.int .i64 ro, .int .i64 rn, .int .i64 rk, .int .i64 rv, .int .i64 ra] 26)).cell? ⟨bn, 1, none⟩ = some (.int .i64 n) := by rw [bel.cell (p := ⟨bn, 1, none⟩) hb]; exact c1
  have hb' := Nat.lt_of_lt_of_le hb bel.size
  generalize w.alloc (.cells #[.int .i64 ro, .int .i64 rn, .int .i64 rk, .int .i64 rv, .int .i64 ra] 26) = w1 at oR bel d0 d1 hb' ⊢
  have q0 := fun x : Past w1 => past_cell x d0 hb'
  have q1 := fun x : Past w1 => past_cell x d1 hb'
  have pR0 := fun x : Past w1 => (oR.past x).cell (i := 0) rfl
  have pR1 := fun x : Past w1 => (oR.past x).cell (i := 1) rfl
  have pR2 := fun x : Past w1 => (oR.past x).cell (i := 2) rfl
  have pR3 := fun x : Past w1 => (oR.past x).cell (i := 3) rfl
  have pR4 := fun x : Past w1 => (oR.past x).cell (i := 4) rfl
  clear c0 c1 d0 d1
  refine wp_region_past (by kernel_rfl) (by kernel_rfl) ?_
  repeat (go_big_quiet_step ((go_at_call 27; exact calls_past (name_any ro rn rk rv ra _))))
  refine wpQuiet_nil ?_
  rintro _ ⟨y, rfl⟩
  replace bel : Below w.heap.size w (past w1 y) := bel.trans (y.h.mono bel.size)
  go_wp2
  go_ret
  exact ⟨rfl, bel⟩

/-- One reading of a slice, in a later world. -/
theorem SlR.at {w w' : World} {rs : List Rd} {p : Option Addr} (parts : ∀ i r, rs[i]? = some r → ∃ b off, p = some ⟨b, off, none⟩ ∧ b < w.heap.size ∧ ∀ j x, r.cells[j]? = some x → w.cell? ⟨b, off + i * 5 + j, none⟩ = some x) (bel : Below w.heap.size w w') {i : Nat} (hi : i < rs.length) :
    ∃ r b off, rs[i]? = some r ∧ p = some ⟨b, off, none⟩ ∧ b < w'.heap.size ∧ w'.cell? ⟨b, off + i * 5, none⟩ = some (.int .i64 r.o) ∧ w'.cell? ⟨b, off + i * 5 + 1, none⟩ = some (.int .i64 r.n) ∧ w'.cell? ⟨b, off + i * 5 + 2, none⟩ = some (.int .i64 r.k) ∧ w'.cell? ⟨b, off + i * 5 + 3, none⟩ = some (.int .i64 r.v) ∧ w'.cell? ⟨b, off + i * 5 + 4, none⟩ = some (.int .i64 r.a) := by
  have e : rs[i]? = some (rs[i]'hi) := List.getElem?_eq_getElem hi
  obtain ⟨b, off, hp, hlt, hc⟩ := parts i _ e
  have hc' : ∀ j x, (rs[i]'hi).cells[j]? = some x → w'.cell? ⟨b, off + i * 5 + j, none⟩ = some x := fun j x hx => by rw [← hc j x hx]; exact bel.cell (p := ⟨b, off + i * 5 + j, none⟩) hlt
  obtain ⟨c0, c1, c2, c3, c4⟩ := SlR.row hc'
  exact ⟨_, b, off, e, hp, Nat.lt_of_lt_of_le hlt bel.size, c0, c1, c2, c3, c4⟩

set_option maxRecDepth 100000 in
set_option maxHeartbeats 2000000 in
theorem index_any (v : Value) (rs : List Rd) (bn : Nat) (o n : Int) (w : World) (sl : SlR w v rs) (hb : bn < w.heap.size) (c0 : w.cell? ⟨bn, 0, none⟩ = some (.int .i64 o)) (c1 : w.cell? ⟨bn, 1, none⟩ = some (.int .i64 n)) :
    Calls Try.prog 30 #[v, .func (.func 31) #[] #[.pointer (some ⟨bn, 0, none⟩)]] w
      fun e w' => e = .returned (.int .i64 (fnd o n rs)) ∧ Below w.heap.size w w' := by
  obtain ⟨p, cap, rfl, hlc, hcm, parts⟩ := sl
  unfold maxLen at hcm
  have hlen : rs.length ≤ 140737488355328 ∨ True := .inr trivial
  go_enter Try.func30, Try.ntmps30
  go_wp2
  go_loopw [8] (fun i wr => ∃ k : Nat, k ≤ rs.length ∧ i = .int .i64 k ∧ Below w.heap.size w wr ∧ fnd o n rs = fndFrom o n (rs.drop k) k) (fun i _ => rs.length - (intOf i).toNat)
  case atStart => exact ⟨0, Nat.zero_le _, rfl, Below.refl _ _, by simp [fnd]⟩
  case round =>
    obtain ⟨k, hk, rfl, bel, hF⟩ := hrel
    have HF := Lib.hid hF
    clear hF
    by_cases hlt : k < rs.length
    · obtain ⟨r, b, off, hr, rfl, hbl, d0, d1, d2, d3, d4⟩ := SlR.at parts bel hlt
      have HR := Lib.hid hr
      clear parts hr
      have e0 : wr.cell? ⟨bn, 0, none⟩ = some (.int .i64 o) := by rw [bel.cell (p := ⟨bn, 0, none⟩) hb]; exact c0
      have e1 : wr.cell? ⟨bn, 1, none⟩ = some (.int .i64 n) := by rw [bel.cell (p := ⟨bn, 1, none⟩) hb]; exact c1
      have hb' := Nat.lt_of_lt_of_le hb bel.size
      cases hx : isB o n r with
      | true =>
        have hv := fndFrom_hit HR.out hx
        have HV := Lib.hid hv
        have HX := Lib.hid hx
        clear hv hx
        go_wp2_with fail
        refine (same_name bn o n r true _ hb' e0 e1 HX.out).mono ?_
        rintro e w1 ⟨rfl, hb1⟩
        go_wp2_with fail
        go_ret
        exact ⟨ret_int (by rw [HF.out, HV.out]), belowTo bel hb1 bel.size⟩
      | false =>
        have hv := fndFrom_miss HR.out hx
        have HV := Lib.hid hv
        have HX := Lib.hid hx
        clear hv hx
        go_wp2_with fail
        refine (same_name bn o n r false _ hb' e0 e1 HX.out).mono ?_
        rintro e w1 ⟨rfl, hb1⟩
        go_wp2_with fail
        go_roundw
        case rel => exact ⟨k + 1, by omega, by go_num, belowTo bel hb1 bel.size, by rw [HF.out, HV.out]⟩
        case measure => simp [intOf]; omega
    · have hv := fndFrom_end (o := o) (n := n) (rs := rs) (k := k) (by omega)
      have HV := Lib.hid hv
      clear hv parts
      go_wp2_with fail
      go_ret
      exact ⟨ret_int (by rw [HF.out, HV.out]), bel⟩

set_option maxRecDepth 100000 in
set_option maxHeartbeats 2000000 in
theorem find_any (v : Value) (rs : List Rd) (o n : Int) (w : World) (sl : SlR w v rs) :
    Calls Try.prog 26 #[v, .agg #[.int .i64 o, .int .i64 n]] w fun e w' => e = .returned (.int .i64 (fnd o n rs)) ∧ Below w.heap.size w w' := by
  have hmf : ∀ (fn : Fn) (first cap : Array Value) (w : World), (Instr.makeFunc fn first cap).run Try.prog w = .ok (.func fn first cap) w := fun _ _ _ _ => rfl
  have ow : Own (w.alloc (.cells #[.int .i64 o, .int .i64 n] 48)) w.heap.size [.int .i64 o, .int .i64 n] 48 := own_at _ _ rfl
  have bel := belowNew w (.cells #[.int .i64 o, .int .i64 n] 48)
  have sl' := sl.below bel
  have SL := Lib.hid sl'
  clear sl sl'
  go_enter Try.func26, Try.ntmps26
  go_wp2_with fail
  refine (index_any v rs w.heap.size o n _ SL.out (by simp) (ow.cell rfl) (ow.cell rfl)).mono ?_
  rintro e w1 ⟨rfl, hb⟩
  go_wp2_with fail
  go_ret
  exact ⟨rfl, belowTo bel hb (by simp)⟩

set_option maxRecDepth 100000 in
set_option maxHeartbeats 2000000 in
theorem rfind_any (v : Value) (rs : List Rd) (o n : Int) (w : World) (sl : SlR w v rs) :
    Calls Try.prog 22 #[v, .int .i64 o, .int .i64 n] w fun e w' => e = .returned (.int .i64 (fnd o n rs)) ∧ w' = w := by
  obtain ⟨p, cap, rfl, hlc, hcm, parts⟩ := sl
  unfold maxLen at hcm
  go_enter Try.func22, Try.ntmps22
  go_wp2
  go_loop [7] (fun i => ∃ k : Nat, k ≤ rs.length ∧ i = .int .i64 k ∧ fnd o n rs = fndFrom o n (rs.drop k) k) (fun i => rs.length - (intOf i).toNat)
  case atStart => exact ⟨0, Nat.zero_le _, rfl, by simp [fnd]⟩
  case round =>
    obtain ⟨k, hk, rfl, hF⟩ := hrel
    have HF := Lib.hid hF
    clear hF
    by_cases hlt : k < rs.length
    · obtain ⟨r, b, off, hr, rfl, hbl, d0, d1, d2, d3, d4⟩ := SlR.at parts (Below.refl _ _) hlt
      have HR := Lib.hid hr
      clear parts hr
      cases h0 : (r.o == o) with
      | true =>
        cases h1 : (r.n == n) with
        | true =>
          have HV := Lib.hid (fndFrom_hit HR.out (show isB o n r = true by simp [isB, h0, h1]))
          go_wp2
          go_ret
          exact ⟨ret_int (by rw [HF.out, HV.out]), rfl⟩
        | false =>
          have HV := Lib.hid (fndFrom_miss HR.out (show isB o n r = false by simp [isB, h0, h1]))
          go_wp2
          go_round
          case rel => exact ⟨k + 1, by omega, by go_num, by rw [HF.out, HV.out]⟩
          case measure => simp [intOf]; omega
      | false =>
        have HV := Lib.hid (fndFrom_miss HR.out (show isB o n r = false by simp [isB, h0]))
        go_wp2
        go_round
        case rel => exact ⟨k + 1, by omega, by go_num, by rw [HF.out, HV.out]⟩
        case measure => simp [intOf]; omega
    · have HV := Lib.hid (fndFrom_end (o := o) (n := n) (rs := rs) (k := k) (by omega))
      clear parts
      go_wp2
      go_ret
      exact ⟨ret_int (by rw [HF.out, HV.out]), rfl⟩

end Go.Proofs.Ytlfdbmndikdhdaa
