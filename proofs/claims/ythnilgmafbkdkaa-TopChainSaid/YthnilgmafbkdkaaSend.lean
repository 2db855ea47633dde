/- The contracts of guard's rescue, Send, Listen and Catches. -/
import Derived.Test.YthnilgmafbkdkaaSlot
import Derived.WideLaws
namespace Go.Proofs.Ythnilgmafbkdkaa
open Go.RowKit

theorem resc_assert (E : Int) (w : World) : (Instr.typeAssert (.iface 29 (.int .i64 E)) 20 29 true).run Try.prog w = .ok (.tuple #[.int .i64 E, .bool true]) w := by kernel_rfl
theorem resc_nil (E : Int) (w : World) : (binOp .eql 20 (.iface 29 (.int .i64 E)) .nilIface).run Try.prog w = .ok (.bool false) w := run_eql_held_nil w _ _ _ (by kernel_rfl)

set_option maxRecDepth 100000 in
set_option maxHeartbeats 400000 in
theorem rescue_pan (b : Nat) (E x : Int) (w : World) (hc : w.cell? ⟨b, 0, none⟩ = some (.int .i64 x)) (hz : w.frozen? ⟨b, 0, none⟩ = false) :
    CallsD Try.prog 16 #[.pointer (some ⟨b, 0, none⟩)] (.panicking [{ v := .iface 29 (.int .i64 E), recovered := false }]) w fun e u' w' =>
      e = .returned (.tuple #[]) ∧ u' = .panicking [{ v := .iface 29 (.int .i64 E), recovered := true }] ∧ w' = w.setCell ⟨b, 0, none⟩ (.int .i64 E) := by
  have ta := resc_assert
  have en := resc_nil E
  refine callsD_of_wpS Try.func16 rfl fun c₀ cs hu => ?_
  apply wpS_seq
  apply wpS_region
  simp [wpOpsS, go_sem, recoverD, hu, Try.ntmps16, Exit.thenS]
  refine wpS_of_wp ?_
  generalize hQ : bodyPostS Try.prog Try.f16 c₀ cs _ = Q
  generalize hcs : (_ :: cs) = css
  have HQ := Lib.hid hQ
  have HC := Lib.hid hcs
  clear hQ hcs hu
  simp only [Array.replicate_succ, Array.replicate_zero, List.push_toArray, List.append_toArray, List.nil_append, List.cons_append, List.setIfInBounds_toArray, List.set_cons_succ, List.set_cons_zero]
  go_wp2_with fail
  rw [← HQ.out, ← HC.out]
  simp [bodyPostS, results, Try.results16]

set_option maxHeartbeats 400000 in
theorem rescue_idle (b : Nat) (w : World) :
    CallsD Try.prog 16 #[.pointer (some ⟨b, 0, none⟩)] .returning w fun e u' w' => e = .returned (.tuple #[]) ∧ u' = .returning ∧ w' = w := by
  refine callsD_of_wpS Try.func16 rfl fun c₀ cs hu => ?_
  apply wpS_seq
  apply wpS_region
  simp [wpOpsS, go_sem, recoverD, hu, Try.ntmps16, Exit.thenS]
  refine wpS_of_wp ?_
  go_wp2
  cases c₀
  simp_all [bodyPostS, results, Try.results16]

set_option maxRecDepth 100000 in
set_option maxHeartbeats 2000000 in
theorem send_ok (sy : Bool) (l h a k src he o d asn N : Int) (w : World) (hE : gsE sy l h a k src he o d asn = 0) (hN : gsN sy l h a k src he o d asn = N) :
    Calls Try.prog 6 #[.agg #[.bool sy, .int .i64 l, .int .i64 h, .int .i64 a, .int .i64 k, .int .i64 src, .int .i64 he], .agg #[.int .i64 o, .int .i64 d], .int .i64 asn] w
      fun e w' => e = .returned (.tuple #[.int .i64 N, .int .i64 0]) ∧ Below w.heap.size w w' := by
  have HE := Lib.hid hE
  have HN := Lib.hid hN
  clear hN
  clear hE
  go_enter_defers Try.func6, Try.ntmps6
  go_wp2_with fail
  refine (slot_yes sy l h a k src he o d asn N _ _ HE.out ⟨HN.out, rfl⟩).mono ?_
  rintro e w1 ⟨rfl, hb⟩
  have oE : Own w1 (w.heap.size + 2) [.int .i64 0] 29 := (own_at _ _ (by simp)).below hb
  have bel := belowTo ((((Below.refl w.heap.size w).alloc (by simp) _).alloc (by simp) _).alloc (by simp; omega) _) hb (by simp; omega)
  clear hb
  obtain ⟨cE0, fE, zE⟩ := own1 oE
  go_wp2_with fail
  show Leaves _ _ _ _ _ _ _
  refine leaves_cons (f := 16) (args := #[.pointer (some ⟨w.heap.size + 1 + 1, 0, none⟩)]) (by simp) (by simp [go_sem]) ?_
  refine (rescue_idle _ _).mono ?_
  rintro e u' w'' ⟨rfl, rfl, rfl⟩
  simp [Leaves, settle, results, Try.results6, go_sem, *]
  repeat (first | (with_reducible exact bel) | (with_reducible refine belowSet ?_ _ _ _ ?_) | (with_reducible refine Below.drew ?_) | (with_reducible refine belowN ?_) | (with_reducible refine Below.alloc ?_ ?_ _))
  all_goals (first | omega | (simp; omega) | (simp; done) | (have := bel.size; simp; omega))

set_option maxRecDepth 100000 in
set_option maxHeartbeats 2000000 in
theorem send_no (sy : Bool) (l h a k src he o d asn E : Int) (w : World) (hE : gsE sy l h a k src he o d asn = E) (hn : (E == 0) = false) :
    Calls Try.prog 6 #[.agg #[.bool sy, .int .i64 l, .int .i64 h, .int .i64 a, .int .i64 k, .int .i64 src, .int .i64 he], .agg #[.int .i64 o, .int .i64 d], .int .i64 asn] w
      fun e w' => e = .returned (.tuple #[.int .i64 0, .int .i64 E]) ∧ Below w.heap.size w w' := by
  have HE := Lib.hid hE
  clear hE
  go_enter_defers Try.func6, Try.ntmps6
  go_wp2_with fail
  refine (slot_no sy l h a k src he o d asn E _ HE.out hn).mono ?_
  rintro e w1 ⟨rfl, hb⟩
  have oE : Own w1 (w.heap.size + 2) [.int .i64 0] 29 := (own_at _ _ (by simp)).below hb
  have bel := belowTo ((((Below.refl w.heap.size w).alloc (by simp) _).alloc (by simp) _).alloc (by simp; omega) _) hb (by simp; omega)
  clear hb
  obtain ⟨cE0, fE, zE⟩ := own1 oE
  unfold pan
  go_wp2_with fail
  show Leaves _ _ _ _ _ _ _
  refine leaves_cons (f := 16) (args := #[.pointer (some ⟨w.heap.size + 1 + 1, 0, none⟩)]) (by simp) (by simp [go_sem]) ?_
  refine (rescue_pan _ E 0 _ ?_ ?_).mono ?_
  · first | exact cE0 | simp [go_sem, *]
  · first | exact fE _ | simp [go_sem, *]
  rintro e u' w'' ⟨rfl, rfl, rfl⟩
  simp [Leaves, settle, results, Try.results6, go_sem, *]
  repeat (first | (with_reducible exact bel) | (with_reducible refine belowSet ?_ _ _ _ ?_) | (with_reducible refine Below.drew ?_) | (with_reducible refine belowN ?_) | (with_reducible refine Below.alloc ?_ ?_ _))
  all_goals (first | omega | (simp; omega) | (simp; done) | (have := bel.size; simp; omega))


theorem send_lit (sy : Bool) (l h a k src he o d asn N E : Int) (w : World) (hN : gsN sy l h a k src he o d asn = N ∧ gsE sy l h a k src he o d asn = E) :
    Calls Try.prog 6 #[.agg #[.bool sy, .int .i64 l, .int .i64 h, .int .i64 a, .int .i64 k, .int .i64 src, .int .i64 he], .agg #[.int .i64 o, .int .i64 d], .int .i64 asn] w
      fun e w' => e = .returned (.tuple #[.int .i64 N, .int .i64 E]) ∧ Below w.heap.size w w' := by
  obtain ⟨rfl, rfl⟩ := hN
  by_cases q : gsE sy l h a k src he o d asn = 0
  · rw [q]; exact send_ok sy l h a k src he o d asn _ w q rfl
  · rw [show gsN sy l h a k src he o d asn = 0 from by simp [gsN, q]]
    exact send_no sy l h a k src he o d asn _ w rfl (by simpa using q)

set_option maxRecDepth 100000 in
set_option maxHeartbeats 2000000 in
theorem listen_ok (sy : Bool) (l h a k src he o d asn N B : Int) (w : World) (hE : gsE sy l h a k src he o d asn = 0) (hN : gsN sy l h a k src he o d asn = N ∧ gsB sy l h a k src he o d asn = B) (b1 : -40000000000000 ≤ N) (b2 : N ≤ 40000000000000) (b3 : 0 ≤ B) (b4 : B ≤ 2000) :
    Calls Try.prog 19 #[.agg #[.bool sy, .int .i64 l, .int .i64 h, .int .i64 a, .int .i64 k, .int .i64 src, .int .i64 he], .agg #[.int .i64 o, .int .i64 d], .int .i64 asn] w
      fun e w' => e = .returned (.tuple #[.agg #[.int .i64 (N - (2004 + B)), .int .i64 (N + (2004 + B))], .int .i64 0]) ∧ Below w.heap.size w w' := by
  have HE := Lib.hid hE
  have HN := Lib.hid hN
  clear hN
  clear hE
  go_enter_defers Try.func19, Try.ntmps19
  go_wp2_with fail
  refine (slot_yes sy l h a k src he o d asn N B _ HE.out HN.out).mono ?_
  rintro e w1 ⟨rfl, hb⟩
  have oE : Own w1 (w.heap.size + 3) [.int .i64 0] 29 := (own_at _ _ (by simp)).below hb
  have oR : Own w1 (w.heap.size + 2) [.int .i64 0, .int .i64 0] 62 := ((own_at _ _ (by simp)).alloc _).below hb
  have bel := belowTo (((((Below.refl w.heap.size w).alloc (by simp) _).alloc (by simp) _).alloc (by simp; omega) _).alloc (by simp; omega) _) hb (by simp; omega)
  clear hb
  obtain ⟨cE0, fE, zE⟩ := own1 oE
  obtain ⟨cR0, cR1, fR, zR⟩ := own2 oR
  go_wp2_with fail
  show Leaves _ _ _ _ _ _ _
  refine leaves_cons (f := 16) (args := #[.pointer (some ⟨w.heap.size + 1 + 1 + 1, 0, none⟩)]) (by simp) (by simp [go_sem]) ?_
  refine (rescue_idle _ _).mono ?_
  rintro e u' w'' ⟨rfl, rfl, rfl⟩
  simp [Leaves, settle, results, Try.results19, go_sem, *]
  repeat (first | (with_reducible exact bel) | (with_reducible refine belowSet ?_ _ _ _ ?_) | (with_reducible refine Below.drew ?_) | (with_reducible refine belowN ?_) | (with_reducible refine Below.alloc ?_ ?_ _))
  all_goals (first | omega | (simp; omega) | (simp; done) | (have := bel.size; simp; omega))

set_option maxRecDepth 100000 in
set_option maxHeartbeats 2000000 in
theorem listen_no (sy : Bool) (l h a k src he o d asn E : Int) (w : World) (hE : gsE sy l h a k src he o d asn = E) (hn : (E == 0) = false) :
    Calls Try.prog 19 #[.agg #[.bool sy, .int .i64 l, .int .i64 h, .int .i64 a, .int .i64 k, .int .i64 src, .int .i64 he], .agg #[.int .i64 o, .int .i64 d], .int .i64 asn] w
      fun e w' => e = .returned (.tuple #[.agg #[.int .i64 0, .int .i64 0], .int .i64 E]) ∧ Below w.heap.size w w' := by
  have HE := Lib.hid hE
  clear hE
  go_enter_defers Try.func19, Try.ntmps19
  go_wp2_with fail
  refine (slot_no sy l h a k src he o d asn E _ HE.out hn).mono ?_
  rintro e w1 ⟨rfl, hb⟩
  have oE : Own w1 (w.heap.size + 3) [.int .i64 0] 29 := (own_at _ _ (by simp)).below hb
  have oR : Own w1 (w.heap.size + 2) [.int .i64 0, .int .i64 0] 62 := ((own_at _ _ (by simp)).alloc _).below hb
  have bel := belowTo (((((Below.refl w.heap.size w).alloc (by simp) _).alloc (by simp) _).alloc (by simp; omega) _).alloc (by simp; omega) _) hb (by simp; omega)
  clear hb
  obtain ⟨cE0, fE, zE⟩ := own1 oE
  obtain ⟨cR0, cR1, fR, zR⟩ := own2 oR
  unfold pan
  go_wp2_with fail
  show Leaves _ _ _ _ _ _ _
  refine leaves_cons (f := 16) (args := #[.pointer (some ⟨w.heap.size + 1 + 1 + 1, 0, none⟩)]) (by simp) (by simp [go_sem]) ?_
  refine (rescue_pan _ E 0 _ ?_ ?_).mono ?_
  · first | exact cE0 | simp [go_sem, *]
  · first | exact fE _ | simp [go_sem, *]
  rintro e u' w'' ⟨rfl, rfl, rfl⟩
  simp [Leaves, settle, results, Try.results19, go_sem, *]
  repeat (first | (with_reducible exact bel) | (with_reducible refine belowSet ?_ _ _ _ ?_) | (with_reducible refine Below.drew ?_) | (with_reducible refine belowN ?_) | (with_reducible refine Below.alloc ?_ ?_ _))
  all_goals (first | omega | (simp; omega) | (simp; done) | (have := bel.size; simp; omega))


theorem bdN_bd (l h a k src he n : Int) (e : bdE true l h a k src he n = 0) : 0 ≤ bdN true l h a k src he n ∧ bdN true l h a k src he n ≤ 2000 := by
  by_cases hk : k = 0
  · simp [bdN, hk]
  · obtain ⟨_, g, q⟩ := bd_zero e hk
    rw [bdN_ok e hk]
    have kr := (gr_zero g).2.1
    unfold okR at kr
    rw [vldS_iff] at kr
    refine ⟨?_, q⟩
    unfold hafT
    omega
theorem gs_bd {sy : Bool} {l h a k src he o d asn : Int} (hE : gsE sy l h a k src he o d asn = 0) :
    -40000000000000 ≤ gsN sy l h a k src he o d asn ∧ gsN sy l h a k src he o d asn ≤ 40000000000000 ∧ 0 ≤ gsB sy l h a k src he o d asn ∧ gsB sy l h a k src he o d asn ≤ 2000 := by
  obtain ⟨h1, ⟨h2, h3⟩, h4, h5, h6, h7⟩ := gs_zero hE
  subst h5
  have := bdN_bd l h a k src he _ h6
  have := lst_bd o d (ownT k l h asn)
  simp only [gsN, gsB, hE, if_true]
  omega

/-- The window, and its error. -/
def lsL (sy : Bool) (l h a k src he o d asn : Int) : Int := if gsE sy l h a k src he o d asn = 0 then gsN sy l h a k src he o d asn - (2004 + gsB sy l h a k src he o d asn) else 0
def lsH (sy : Bool) (l h a k src he o d asn : Int) : Int := if gsE sy l h a k src he o d asn = 0 then gsN sy l h a k src he o d asn + (2004 + gsB sy l h a k src he o d asn) else 0
theorem listen_lit (sy : Bool) (l h a k src he o d asn L H E : Int) (w : World) (hN : lsL sy l h a k src he o d asn = L ∧ lsH sy l h a k src he o d asn = H ∧ gsE sy l h a k src he o d asn = E) :
    Calls Try.prog 19 #[.agg #[.bool sy, .int .i64 l, .int .i64 h, .int .i64 a, .int .i64 k, .int .i64 src, .int .i64 he], .agg #[.int .i64 o, .int .i64 d], .int .i64 asn] w
      fun e w' => e = .returned (.tuple #[.agg #[.int .i64 L, .int .i64 H], .int .i64 E]) ∧ Below w.heap.size w w' := by
  obtain ⟨rfl, rfl, rfl⟩ := hN
  by_cases q : gsE sy l h a k src he o d asn = 0
  · obtain ⟨b1, b2, b3, b4⟩ := gs_bd q
    rw [show lsL sy l h a k src he o d asn = _ from by rw [lsL, if_pos q], show lsH sy l h a k src he o d asn = _ from by rw [lsH, if_pos q], q]
    exact listen_ok sy l h a k src he o d asn _ _ w q ⟨rfl, rfl⟩ b1 b2 b3 b4
  · rw [show lsL sy l h a k src he o d asn = 0 from by rw [lsL, if_neg q], show lsH sy l h a k src he o d asn = 0 from by rw [lsH, if_neg q]]
    exact listen_no sy l h a k src he o d asn _ w rfl (by simpa using q)

def catB (n l h : Int) : Bool := decide (l ≤ n ∧ n ≤ h)
theorem catB_iff {n l h : Int} : catB n l h = true ↔ l ≤ n ∧ n ≤ h := by simp [catB]
set_option maxHeartbeats 1000000 in
theorem catches_lit (n l h : Int) (r : Bool) (w : World) (k : catB n l h = r) :
    Calls Try.prog 20 #[.int .i64 n, .agg #[.int .i64 l, .int .i64 h]] w fun e w' => e = .returned (.bool r) ∧ Below w.heap.size w w' := by
  subst k
  go_enter Try.func20, Try.ntmps20
  go_wp2
  all_goals (go_ret; refine ⟨ret_bool ?_, belowNew _ _⟩; refine Bool.eq_iff_iff.2 ?_; simp only [catB, decide_eq_true_eq, Bool.false_eq_true]; first | omega | (rw [false_iff]; omega))


end Go.Proofs.Ythnilgmafbkdkaa
