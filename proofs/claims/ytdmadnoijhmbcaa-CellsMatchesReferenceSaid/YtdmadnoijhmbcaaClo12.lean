/- The closures of package cells. -/
import Derived.Test.YtdmadnoijhmbcaaKit12
import Derived.Test.YtdmadnoijhmbcaaTake12
namespace Go.Proofs.Ytdmadnoijhmbcaa
open Go.RowKit

theorem calls_bool {P : Program} {f : FuncId} {args : Array Value} {w : World} {b x : Bool} (h : Calls P f args w fun e w' => e = .returned (.bool b) ∧ Below w.heap.size w w') (e : b = x) : Calls P f args w fun e w' => e = .returned (.bool x) ∧ Below w.heap.size w w' := by
  subst e; exact h
set_option maxRecDepth 100000 in
set_option maxHeartbeats 400000 in
theorem eq_cell (a b c d : Int) (w : World) : (binOp .eql 30 (.agg #[.int .i64 a, .int .i64 b]) (.agg #[.int .i64 c, .int .i64 d])).run Try.prog w = .ok (.bool (a == c && b == d)) w := by
  go_simp
  by_cases h0 : a = c
  · by_cases h1 : b = d <;> simp [h0, h1]
  · simp [h0]

set_option linter.unusedSimpArgs false in
set_option linter.unusedVariables false in
set_option maxRecDepth 100000 in
set_option maxHeartbeats 2000000 in
theorem bz1_any (bn : Nat) (zs : Int) (d : Us) (w : World) (hb : bn < w.heap.size) (c0 : w.cell? ⟨bn, 0, none⟩ = some (.int .i64 zs)) : Calls Try.prog 50 #[.agg #[.int .i64 d.s, .int .i64 d.o, .int .i64 d.p, .int .i64 d.m], .pointer (some ⟨bn, 0, none⟩)] w fun e w' => e = .returned (.bool (d.s == zs)) ∧ Below w.heap.size w w' := by
  go_enter Try.func50, Try.ntmps50
  go_wp2
  all_goals (go_ret; exact ⟨rfl, belowNew w _⟩)

set_option linter.unusedSimpArgs false in
set_option linter.unusedVariables false in
set_option maxRecDepth 100000 in
set_option maxHeartbeats 2000000 in
theorem bz2_any (bn : Nat) (zs : Int) (d : Gr) (w : World) (hb : bn < w.heap.size) (c0 : w.cell? ⟨bn, 0, none⟩ = some (.int .i64 zs)) : Calls Try.prog 52 #[.agg #[.int .i64 d.s, .int .i64 d.o, .int .i64 d.p, .int .i64 d.m, .int .i64 d.u], .pointer (some ⟨bn, 0, none⟩)] w fun e w' => e = .returned (.bool (d.s == zs)) ∧ Below w.heap.size w w' := by
  go_enter Try.func52, Try.ntmps52
  go_wp2
  all_goals (go_ret; exact ⟨rfl, belowNew w _⟩)

set_option linter.unusedSimpArgs false in
set_option linter.unusedVariables false in
set_option maxRecDepth 100000 in
set_option maxHeartbeats 2000000 in
theorem exg_any (bn : Nat) (zs : Int) (d : Gr) (w : World) (hb : bn < w.heap.size) (c0 : w.cell? ⟨bn, 0, none⟩ = some (.int .i64 zs)) : Calls Try.prog 59 #[.agg #[.int .i64 d.s, .int .i64 d.o, .int .i64 d.p, .int .i64 d.m, .int .i64 d.u], .pointer (some ⟨bn, 0, none⟩)] w fun e w' => e = .returned (.bool (decide (d.u < zs))) ∧ Below w.heap.size w w' := by
  go_enter Try.func59, Try.ntmps59
  go_wp2
  all_goals (go_ret; exact ⟨rfl, belowNew w _⟩)

set_option linter.unusedSimpArgs false in
set_option linter.unusedVariables false in
set_option maxRecDepth 100000 in
set_option maxHeartbeats 2000000 in
theorem una_any (bn : Nat) (zs : Int) (d : Ak) (w : World) (hb : bn < w.heap.size) (c0 : w.cell? ⟨bn, 0, none⟩ = some (.int .i64 zs)) : Calls Try.prog 64 #[.agg #[.int .i64 d.s, .int .i64 d.o, .int .i64 d.p], .pointer (some ⟨bn, 0, none⟩)] w fun e w' => e = .returned (.bool (d.s == zs)) ∧ Below w.heap.size w w' := by
  go_enter Try.func64, Try.ntmps64
  go_wp2
  all_goals (go_ret; exact ⟨rfl, belowNew w _⟩)

set_option linter.unusedSimpArgs false in
set_option linter.unusedVariables false in
set_option maxRecDepth 100000 in
set_option maxHeartbeats 2000000 in
theorem dru_any (bn : Nat) (zs zo : Int) (d : Us) (w : World) (hb : bn < w.heap.size) (c0 : w.cell? ⟨bn, 0, none⟩ = some (.int .i64 zs)) (c1 : w.cell? ⟨bn, 1, none⟩ = some (.int .i64 zo)) : Calls Try.prog 54 #[.agg #[.int .i64 d.s, .int .i64 d.o, .int .i64 d.p, .int .i64 d.m], .pointer (some ⟨bn, 0, none⟩)] w fun e w' => e = .returned (.bool (d.s == zs && d.o == zo)) ∧ Below w.heap.size w w' := by
  have hq := eq_cell
  go_enter Try.func54, Try.ntmps54
  go_wp2
  all_goals (go_ret; exact ⟨rfl, belowNew w _⟩)

set_option linter.unusedSimpArgs false in
set_option linter.unusedVariables false in
set_option maxRecDepth 100000 in
set_option maxHeartbeats 2000000 in
theorem drg_any (bn : Nat) (zs zo : Int) (d : Gr) (w : World) (hb : bn < w.heap.size) (c0 : w.cell? ⟨bn, 0, none⟩ = some (.int .i64 zs)) (c1 : w.cell? ⟨bn, 1, none⟩ = some (.int .i64 zo)) : Calls Try.prog 56 #[.agg #[.int .i64 d.s, .int .i64 d.o, .int .i64 d.p, .int .i64 d.m, .int .i64 d.u], .pointer (some ⟨bn, 0, none⟩)] w fun e w' => e = .returned (.bool (d.s == zs && d.o == zo)) ∧ Below w.heap.size w w' := by
  have hq := eq_cell
  go_enter Try.func56, Try.ntmps56
  go_wp2
  all_goals (go_ret; exact ⟨rfl, belowNew w _⟩)

set_option linter.unusedSimpArgs false in
set_option linter.unusedVariables false in
set_option maxRecDepth 100000 in
set_option maxHeartbeats 2000000 in
theorem dra_any (bn : Nat) (zs zo : Int) (d : Ak) (w : World) (hb : bn < w.heap.size) (c0 : w.cell? ⟨bn, 0, none⟩ = some (.int .i64 zs)) (c1 : w.cell? ⟨bn, 1, none⟩ = some (.int .i64 zo)) : Calls Try.prog 58 #[.agg #[.int .i64 d.s, .int .i64 d.o, .int .i64 d.p], .pointer (some ⟨bn, 0, none⟩)] w fun e w' => e = .returned (.bool (d.s == zs && d.o == zo)) ∧ Below w.heap.size w w' := by
  have hq := eq_cell
  go_enter Try.func58, Try.ntmps58
  go_wp2
  all_goals (go_ret; exact ⟨rfl, belowNew w _⟩)

set_option linter.unusedSimpArgs false in
set_option linter.unusedVariables false in
set_option maxRecDepth 100000 in
set_option maxHeartbeats 2000000 in
theorem insu_any (ba bx : Nat) (z d : Us) (w : World) (ha : ba < w.heap.size) (hx : bx < w.heap.size) (ca : w.cell? ⟨ba, 0, none⟩ = some (.func (.func 31) #[] #[])) (z0 : w.cell? ⟨bx, 0, none⟩ = some (.int .i64 z.s)) (z1 : w.cell? ⟨bx, 1, none⟩ = some (.int .i64 z.o)) (z2 : w.cell? ⟨bx, 2, none⟩ = some (.int .i64 z.p)) (z3 : w.cell? ⟨bx, 3, none⟩ = some (.int .i64 z.m)) : Calls Try.prog 62 #[.agg #[.int .i64 d.s, .int .i64 d.o, .int .i64 d.p, .int .i64 d.m], .pointer (some ⟨ba, 0, none⟩), .pointer (some ⟨bx, 0, none⟩)] w fun e w' => e = .returned (.bool (decide (z.s < d.s))) ∧ Below w.heap.size w w' := by
  have hfc := field_cell
  go_enter Try.func62, Try.ntmps62
  go_wp2_with fail
  have OX := Lib.hid (own_at (w := w) [.int .i64 d.s, .int .i64 d.o, .int .i64 d.p, .int .i64 d.m] 32 rfl).drew
  have BX := Lib.hid (belowNew w (.cells [.int .i64 d.s, .int .i64 d.o, .int .i64 d.p, .int .i64 d.m].toArray 32)).drew
  have za := Nat.lt_of_lt_of_le ha (belowNew w (.cells [.int .i64 d.s, .int .i64 d.o, .int .i64 d.p, .int .i64 d.m].toArray 32)).size
  have zx := Nat.lt_of_lt_of_le hx (belowNew w (.cells [.int .i64 d.s, .int .i64 d.o, .int .i64 d.p, .int .i64 d.m].toArray 32)).size
  have a0 := (BX.out.cell (p := ⟨ba, 0, none⟩) ha).trans ca
  have y0 := (BX.out.cell (p := ⟨bx, 0, none⟩) hx).trans z0
  have y1 := (BX.out.cell (p := ⟨bx, 1, none⟩) hx).trans z1
  have y2 := (BX.out.cell (p := ⟨bx, 2, none⟩) hx).trans z2
  have y3 := (BX.out.cell (p := ⟨bx, 3, none⟩) hx).trans z3
  obtain ⟨x0, x1, x2, x3, _, _⟩ := own4 OX.out
  have A0 := Lib.hid ca
  have Z0 := Lib.hid z0
  have Z1 := Lib.hid z1
  have Z2 := Lib.hid z2
  have Z3 := Lib.hid z3
  clear ca z0 z1 z2 z3
  refine region_H 14 #[false, false, false, false, false, false, false, false, false, false, false, false, false, false] (by kernel_rfl) (by kernel_rfl) (fun w' => w'.cell? ⟨ba, 0, none⟩ = some (.func (.func 31) #[] #[]) ∧ w'.cell? ⟨bx, 0, none⟩ = some (.int .i64 z.s) ∧ w'.cell? ⟨bx, 1, none⟩ = some (.int .i64 z.o) ∧ w'.cell? ⟨bx, 2, none⟩ = some (.int .i64 z.p) ∧ w'.cell? ⟨bx, 3, none⟩ = some (.int .i64 z.m) ∧ w'.cell? ⟨w.heap.size, 0, none⟩ = some (.int .i64 d.s) ∧ w'.cell? ⟨w.heap.size, 1, none⟩ = some (.int .i64 d.o) ∧ w'.cell? ⟨w.heap.size, 2, none⟩ = some (.int .i64 d.p) ∧ w'.cell? ⟨w.heap.size, 3, none⟩ = some (.int .i64 d.m)) (by kernel_rfl) ?x1s (fun hHeld => ?x1r)
  case x1s => exact ⟨a0, y0, y1, y2, y3, x0, x1, x2, x3⟩
  refine wpH_take (i := 0) (some 5) (v := ?x2v) rfl (by kernel_rfl) (by kernel_rfl) (by kernel_rfl) rfl (fun _ _ _ h => h) (Or.inl ⟨by rfl, ?x2y⟩) hHeld ?x2r
  case x2y => (intro w hSw; (try dsimp only at hSw); go_simp; try with_reducible rfl)
  try simp only [Act.put, List.setIfInBounds_toArray, List.set_cons_zero, List.set_cons_succ]
  refine wpH_take (i := 1) (some 6) (v := ?x3v) rfl (by kernel_rfl) (by kernel_rfl) (by kernel_rfl) rfl (fun _ _ _ h => h) (Or.inl ⟨by rfl, ?x3y⟩) hHeld ?x3r
  case x3y => (intro w hSw; (try dsimp only at hSw); go_simp; try with_reducible rfl)
  try simp only [Act.put, List.setIfInBounds_toArray, List.set_cons_zero, List.set_cons_succ]
  refine wpH_take (i := 6) (some 11) (v := ?x4v) rfl (by kernel_rfl) (by kernel_rfl) (by kernel_rfl) rfl (fun _ _ _ h => h) (Or.inl ⟨by rfl, ?x4y⟩) hHeld ?x4r
  case x4y => (intro w hSw; (try dsimp only at hSw); go_simp; try with_reducible rfl)
  try simp only [Act.put, List.setIfInBounds_toArray, List.set_cons_zero, List.set_cons_succ]
  refine wpH_take (i := 7) (some 12) (v := ?x5v) rfl (by kernel_rfl) (by kernel_rfl) (by kernel_rfl) rfl (fun _ _ _ h => h) (Or.inl ⟨by rfl, ?x5y⟩) hHeld ?x5r
  case x5y => (intro w hSw; (try dsimp only at hSw); go_simp; try with_reducible rfl)
  try simp only [Act.put, List.setIfInBounds_toArray, List.set_cons_zero, List.set_cons_succ]
  refine wpH_one (i := 2) (by kernel_rfl) rfl (fun K hK => ?_)
  rw [if_pos (by rfl)]
  go_simp
  refine (uto_any d.s d.o d.p d.m _).mono ?_
  rintro e w1 ⟨rfl, hb⟩
  have BX1 := Lib.hid (belowTo BX.out hb (by have := BX.out.size; exact this))
  have OX1 := Lib.hid (OX.out.below hb)
  have a1 := (BX1.out.cell (p := ⟨ba, 0, none⟩) ha).trans A0.out
  have y10 := (BX1.out.cell (p := ⟨bx, 0, none⟩) hx).trans Z0.out
  have y11 := (BX1.out.cell (p := ⟨bx, 1, none⟩) hx).trans Z1.out
  have y12 := (BX1.out.cell (p := ⟨bx, 2, none⟩) hx).trans Z2.out
  have y13 := (BX1.out.cell (p := ⟨bx, 3, none⟩) hx).trans Z3.out
  obtain ⟨x10, x11, x12, x13, _, _⟩ := own4 OX1.out
  clear hb
  refine hK.out _ _ (⟨a1, y10, y11, y12, y13, x10, x11, x12, x13⟩) ?_
  clear hK K hHeld
  intro hHeld
  try simp only [Act.put, List.setIfInBounds_toArray, List.set_cons_zero, List.set_cons_succ]
  refine wpH_take (i := 3) (some 8) (v := ?x7v) rfl (by kernel_rfl) (by kernel_rfl) (by kernel_rfl) rfl (fun _ _ _ h => h) (Or.inl ⟨by rfl, ?x7y⟩) hHeld ?x7r
  case x7y => (intro w hSw; (try dsimp only at hSw); go_simp; try with_reducible rfl)
  try simp only [Act.put, List.setIfInBounds_toArray, List.set_cons_zero, List.set_cons_succ]
  refine wpH_one (i := 4) (by kernel_rfl) rfl (fun K hK => ?_)
  rw [if_pos (by rfl)]
  go_simp
  refine (ucell_any d.s d.o d.p d.m _).mono ?_
  rintro e w2 ⟨rfl, hb⟩
  have BX2 := Lib.hid (belowTo BX1.out hb (by have := BX1.out.size; exact this))
  have OX2 := Lib.hid (OX1.out.below hb)
  have a2 := (BX2.out.cell (p := ⟨ba, 0, none⟩) ha).trans A0.out
  have y20 := (BX2.out.cell (p := ⟨bx, 0, none⟩) hx).trans Z0.out
  have y21 := (BX2.out.cell (p := ⟨bx, 1, none⟩) hx).trans Z1.out
  have y22 := (BX2.out.cell (p := ⟨bx, 2, none⟩) hx).trans Z2.out
  have y23 := (BX2.out.cell (p := ⟨bx, 3, none⟩) hx).trans Z3.out
  obtain ⟨x20, x21, x22, x23, _, _⟩ := own4 OX2.out
  clear hb
  refine hK.out _ _ (⟨a2, y20, y21, y22, y23, x20, x21, x22, x23⟩) ?_
  clear hK K hHeld
  intro hHeld
  try simp only [Act.put, List.setIfInBounds_toArray, List.set_cons_zero, List.set_cons_succ]
  refine wpH_take (i := 5) (some 10) (v := ?x9v) rfl (by kernel_rfl) (by kernel_rfl) (by kernel_rfl) rfl (fun _ _ _ h => h) (Or.inl ⟨by rfl, ?x9y⟩) hHeld ?x9r
  case x9y => (intro w hSw; (try dsimp only at hSw); go_simp; try with_reducible rfl)
  try simp only [Act.put, List.setIfInBounds_toArray, List.set_cons_zero, List.set_cons_succ]
  refine wpH_one (i := 8) (by kernel_rfl) rfl (fun K hK => ?_)
  rw [if_pos (by rfl)]
  go_simp
  refine (uto_any z.s z.o z.p z.m _).mono ?_
  rintro e w3 ⟨rfl, hb⟩
  have BX3 := Lib.hid (belowTo BX2.out hb (by have := BX2.out.size; exact this))
  have OX3 := Lib.hid (OX2.out.below hb)
  have a3 := (BX3.out.cell (p := ⟨ba, 0, none⟩) ha).trans A0.out
  have y30 := (BX3.out.cell (p := ⟨bx, 0, none⟩) hx).trans Z0.out
  have y31 := (BX3.out.cell (p := ⟨bx, 1, none⟩) hx).trans Z1.out
  have y32 := (BX3.out.cell (p := ⟨bx, 2, none⟩) hx).trans Z2.out
  have y33 := (BX3.out.cell (p := ⟨bx, 3, none⟩) hx).trans Z3.out
  obtain ⟨x30, x31, x32, x33, _, _⟩ := own4 OX3.out
  clear hb
  refine hK.out _ _ (⟨a3, y30, y31, y32, y33, x30, x31, x32, x33⟩) ?_
  clear hK K hHeld
  intro hHeld
  try simp only [Act.put, List.setIfInBounds_toArray, List.set_cons_zero, List.set_cons_succ]
  refine wpH_take (i := 9) (some 14) (v := ?x11v) rfl (by kernel_rfl) (by kernel_rfl) (by kernel_rfl) rfl (fun _ _ _ h => h) (Or.inl ⟨by rfl, ?x11y⟩) hHeld ?x11r
  case x11y => (intro w hSw; (try dsimp only at hSw); go_simp; try with_reducible rfl)
  try simp only [Act.put, List.setIfInBounds_toArray, List.set_cons_zero, List.set_cons_succ]
  refine wpH_one (i := 10) (by kernel_rfl) rfl (fun K hK => ?_)
  rw [if_pos (by rfl)]
  go_simp
  refine (ucell_any z.s z.o z.p z.m _).mono ?_
  rintro e w4 ⟨rfl, hb⟩
  have BX4 := Lib.hid (belowTo BX3.out hb (by have := BX3.out.size; exact this))
  have OX4 := Lib.hid (OX3.out.below hb)
  have a4 := (BX4.out.cell (p := ⟨ba, 0, none⟩) ha).trans A0.out
  have y40 := (BX4.out.cell (p := ⟨bx, 0, none⟩) hx).trans Z0.out
  have y41 := (BX4.out.cell (p := ⟨bx, 1, none⟩) hx).trans Z1.out
  have y42 := (BX4.out.cell (p := ⟨bx, 2, none⟩) hx).trans Z2.out
  have y43 := (BX4.out.cell (p := ⟨bx, 3, none⟩) hx).trans Z3.out
  obtain ⟨x40, x41, x42, x43, _, _⟩ := own4 OX4.out
  clear hb
  refine hK.out _ _ (⟨a4, y40, y41, y42, y43, x40, x41, x42, x43⟩) ?_
  clear hK K hHeld
  intro hHeld
  try simp only [Act.put, List.setIfInBounds_toArray, List.set_cons_zero, List.set_cons_succ]
  refine wpH_take (i := 11) (some 16) (v := ?x13v) rfl (by kernel_rfl) (by kernel_rfl) (by kernel_rfl) rfl (fun _ _ _ h => h) (Or.inl ⟨by rfl, ?x13y⟩) hHeld ?x13r
  case x13y => (intro w hSw; (try dsimp only at hSw); go_simp; try with_reducible rfl)
  try simp only [Act.put, List.setIfInBounds_toArray, List.set_cons_zero, List.set_cons_succ]
  refine wpH_take (i := 12) (some 17) (v := ?x14v) rfl (by kernel_rfl) (by kernel_rfl) (by kernel_rfl) rfl (fun _ _ _ h => h) (Or.inl ⟨by rfl, ?x14y⟩) hHeld ?x14r
  case x14y => (intro w hSw; (try dsimp only at hSw); go_simp; try with_reducible rfl)
  try simp only [Act.put, List.setIfInBounds_toArray, List.set_cons_zero, List.set_cons_succ]
  refine wpH_take (i := 13) (some 4) (v := ?x15v) rfl (by kernel_rfl) (by kernel_rfl) (by kernel_rfl) rfl (fun _ _ _ h => h) (Or.inl ⟨by rfl, ?x15y⟩) hHeld ?x15r
  case x15y => (intro w hSw; (try dsimp only at hSw); go_simp; try with_reducible rfl)
  try simp only [Act.put, List.setIfInBounds_toArray, List.set_cons_zero, List.set_cons_succ]
  refine wpAnyH_done (by kernel_rfl) ?_ _
  go_wp2_with fail
  all_goals (go_ret; exact ⟨rfl, BX4.out⟩)

set_option linter.unusedSimpArgs false in
set_option linter.unusedVariables false in
set_option maxRecDepth 100000 in
set_option maxHeartbeats 2000000 in
theorem insg_any (ba bx : Nat) (z d : Gr) (w : World) (ha : ba < w.heap.size) (hx : bx < w.heap.size) (ca : w.cell? ⟨ba, 0, none⟩ = some (.func (.func 38) #[] #[])) (z0 : w.cell? ⟨bx, 0, none⟩ = some (.int .i64 z.s)) (z1 : w.cell? ⟨bx, 1, none⟩ = some (.int .i64 z.o)) (z2 : w.cell? ⟨bx, 2, none⟩ = some (.int .i64 z.p)) (z3 : w.cell? ⟨bx, 3, none⟩ = some (.int .i64 z.m)) (z4 : w.cell? ⟨bx, 4, none⟩ = some (.int .i64 z.u)) : Calls Try.prog 66 #[.agg #[.int .i64 d.s, .int .i64 d.o, .int .i64 d.p, .int .i64 d.m, .int .i64 d.u], .pointer (some ⟨ba, 0, none⟩), .pointer (some ⟨bx, 0, none⟩)] w fun e w' => e = .returned (.bool (decide (z.s < d.s))) ∧ Below w.heap.size w w' := by
  have hfc := field_cell
  go_enter Try.func66, Try.ntmps66
  go_wp2_with fail
  have OX := Lib.hid (own_at (w := w) [.int .i64 d.s, .int .i64 d.o, .int .i64 d.p, .int .i64 d.m, .int .i64 d.u] 34 rfl).drew
  have BX := Lib.hid (belowNew w (.cells [.int .i64 d.s, .int .i64 d.o, .int .i64 d.p, .int .i64 d.m, .int .i64 d.u].toArray 34)).drew
  have za := Nat.lt_of_lt_of_le ha (belowNew w (.cells [.int .i64 d.s, .int .i64 d.o, .int .i64 d.p, .int .i64 d.m, .int .i64 d.u].toArray 34)).size
  have zx := Nat.lt_of_lt_of_le hx (belowNew w (.cells [.int .i64 d.s, .int .i64 d.o, .int .i64 d.p, .int .i64 d.m, .int .i64 d.u].toArray 34)).size
  have a0 := (BX.out.cell (p := ⟨ba, 0, none⟩) ha).trans ca
  have y0 := (BX.out.cell (p := ⟨bx, 0, none⟩) hx).trans z0
  have y1 := (BX.out.cell (p := ⟨bx, 1, none⟩) hx).trans z1
  have y2 := (BX.out.cell (p := ⟨bx, 2, none⟩) hx).trans z2
  have y3 := (BX.out.cell (p := ⟨bx, 3, none⟩) hx).trans z3
  have y4 := (BX.out.cell (p := ⟨bx, 4, none⟩) hx).trans z4
  obtain ⟨x0, x1, x2, x3, x4, _, _⟩ := own5 OX.out
  have A0 := Lib.hid ca
  have Z0 := Lib.hid z0
  have Z1 := Lib.hid z1
  have Z2 := Lib.hid z2
  have Z3 := Lib.hid z3
  have Z4 := Lib.hid z4
  clear ca z0 z1 z2 z3 z4
  refine region_H 14 #[false, false, false, false, false, false, false, false, false, false, false, false, false, false] (by kernel_rfl) (by kernel_rfl) (fun w' => w'.cell? ⟨ba, 0, none⟩ = some (.func (.func 38) #[] #[]) ∧ w'.cell? ⟨bx, 0, none⟩ = some (.int .i64 z.s) ∧ w'.cell? ⟨bx, 1, none⟩ = some (.int .i64 z.o) ∧ w'.cell? ⟨bx, 2, none⟩ = some (.int .i64 z.p) ∧ w'.cell? ⟨bx, 3, none⟩ = some (.int .i64 z.m) ∧ w'.cell? ⟨bx, 4, none⟩ = some (.int .i64 z.u) ∧ w'.cell? ⟨w.heap.size, 0, none⟩ = some (.int .i64 d.s) ∧ w'.cell? ⟨w.heap.size, 1, none⟩ = some (.int .i64 d.o) ∧ w'.cell? ⟨w.heap.size, 2, none⟩ = some (.int .i64 d.p) ∧ w'.cell? ⟨w.heap.size, 3, none⟩ = some (.int .i64 d.m) ∧ w'.cell? ⟨w.heap.size, 4, none⟩ = some (.int .i64 d.u)) (by kernel_rfl) ?x16s (fun hHeld => ?x16r)
  case x16s => exact ⟨a0, y0, y1, y2, y3, y4, x0, x1, x2, x3, x4⟩
  refine wpH_take (i := 0) (some 5) (v := ?x17v) rfl (by kernel_rfl) (by kernel_rfl) (by kernel_rfl) rfl (fun _ _ _ h => h) (Or.inl ⟨by rfl, ?x17y⟩) hHeld ?x17r
  case x17y => (intro w hSw; (try dsimp only at hSw); go_simp; try with_reducible rfl)
  try simp only [Act.put, List.setIfInBounds_toArray, List.set_cons_zero, List.set_cons_succ]
  refine wpH_take (i := 1) (some 6) (v := ?x18v) rfl (by kernel_rfl) (by kernel_rfl) (by kernel_rfl) rfl (fun _ _ _ h => h) (Or.inl ⟨by rfl, ?x18y⟩) hHeld ?x18r
  case x18y => (intro w hSw; (try dsimp only at hSw); go_simp; try with_reducible rfl)
  try simp only [Act.put, List.setIfInBounds_toArray, List.set_cons_zero, List.set_cons_succ]
  refine wpH_take (i := 6) (some 11) (v := ?x19v) rfl (by kernel_rfl) (by kernel_rfl) (by kernel_rfl) rfl (fun _ _ _ h => h) (Or.inl ⟨by rfl, ?x19y⟩) hHeld ?x19r
  case x19y => (intro w hSw; (try dsimp only at hSw); go_simp; try with_reducible rfl)
  try simp only [Act.put, List.setIfInBounds_toArray, List.set_cons_zero, List.set_cons_succ]
  refine wpH_take (i := 7) (some 12) (v := ?x20v) rfl (by kernel_rfl) (by kernel_rfl) (by kernel_rfl) rfl (fun _ _ _ h => h) (Or.inl ⟨by rfl, ?x20y⟩) hHeld ?x20r
  case x20y => (intro w hSw; (try dsimp only at hSw); go_simp; try with_reducible rfl)
  try simp only [Act.put, List.setIfInBounds_toArray, List.set_cons_zero, List.set_cons_succ]
  refine wpH_one (i := 2) (by kernel_rfl) rfl (fun K hK => ?_)
  rw [if_pos (by rfl)]
  go_simp
  refine (gto_any d.s d.o d.p d.m d.u _).mono ?_
  rintro e w1 ⟨rfl, hb⟩
  have BX1 := Lib.hid (belowTo BX.out hb (by have := BX.out.size; exact this))
  have OX1 := Lib.hid (OX.out.below hb)
  have a1 := (BX1.out.cell (p := ⟨ba, 0, none⟩) ha).trans A0.out
  have y10 := (BX1.out.cell (p := ⟨bx, 0, none⟩) hx).trans Z0.out
  have y11 := (BX1.out.cell (p := ⟨bx, 1, none⟩) hx).trans Z1.out
  have y12 := (BX1.out.cell (p := ⟨bx, 2, none⟩) hx).trans Z2.out
  have y13 := (BX1.out.cell (p := ⟨bx, 3, none⟩) hx).trans Z3.out
  have y14 := (BX1.out.cell (p := ⟨bx, 4, none⟩) hx).trans Z4.out
  obtain ⟨x10, x11, x12, x13, x14, _, _⟩ := own5 OX1.out
  clear hb
  refine hK.out _ _ (⟨a1, y10, y11, y12, y13, y14, x10, x11, x12, x13, x14⟩) ?_
  clear hK K hHeld
  intro hHeld
  try simp only [Act.put, List.setIfInBounds_toArray, List.set_cons_zero, List.set_cons_succ]
  refine wpH_take (i := 3) (some 8) (v := ?x22v) rfl (by kernel_rfl) (by kernel_rfl) (by kernel_rfl) rfl (fun _ _ _ h => h) (Or.inl ⟨by rfl, ?x22y⟩) hHeld ?x22r
  case x22y => (intro w hSw; (try dsimp only at hSw); go_simp; try with_reducible rfl)
  try simp only [Act.put, List.setIfInBounds_toArray, List.set_cons_zero, List.set_cons_succ]
  refine wpH_one (i := 4) (by kernel_rfl) rfl (fun K hK => ?_)
  rw [if_pos (by rfl)]
  go_simp
  refine (gcell_any d.s d.o d.p d.m d.u _).mono ?_
  rintro e w2 ⟨rfl, hb⟩
  have BX2 := Lib.hid (belowTo BX1.out hb (by have := BX1.out.size; exact this))
  have OX2 := Lib.hid (OX1.out.below hb)
  have a2 := (BX2.out.cell (p := ⟨ba, 0, none⟩) ha).trans A0.out
  have y20 := (BX2.out.cell (p := ⟨bx, 0, none⟩) hx).trans Z0.out
  have y21 := (BX2.out.cell (p := ⟨bx, 1, none⟩) hx).trans Z1.out
  have y22 := (BX2.out.cell (p := ⟨bx, 2, none⟩) hx).trans Z2.out
  have y23 := (BX2.out.cell (p := ⟨bx, 3, none⟩) hx).trans Z3.out
  have y24 := (BX2.out.cell (p := ⟨bx, 4, none⟩) hx).trans Z4.out
  obtain ⟨x20, x21, x22, x23, x24, _, _⟩ := own5 OX2.out
  clear hb
  refine hK.out _ _ (⟨a2, y20, y21, y22, y23, y24, x20, x21, x22, x23, x24⟩) ?_
  clear hK K hHeld
  intro hHeld
  try simp only [Act.put, List.setIfInBounds_toArray, List.set_cons_zero, List.set_cons_succ]
  refine wpH_take (i := 5) (some 10) (v := ?x24v) rfl (by kernel_rfl) (by kernel_rfl) (by kernel_rfl) rfl (fun _ _ _ h => h) (Or.inl ⟨by rfl, ?x24y⟩) hHeld ?x24r
  case x24y => (intro w hSw; (try dsimp only at hSw); go_simp; try with_reducible rfl)
  try simp only [Act.put, List.setIfInBounds_toArray, List.set_cons_zero, List.set_cons_succ]
  refine wpH_one (i := 8) (by kernel_rfl) rfl (fun K hK => ?_)
  rw [if_pos (by rfl)]
  go_simp
  refine (gto_any z.s z.o z.p z.m z.u _).mono ?_
  rintro e w3 ⟨rfl, hb⟩
  have BX3 := Lib.hid (belowTo BX2.out hb (by have := BX2.out.size; exact this))
  have OX3 := Lib.hid (OX2.out.below hb)
  have a3 := (BX3.out.cell (p := ⟨ba, 0, none⟩) ha).trans A0.out
  have y30 := (BX3.out.cell (p := ⟨bx, 0, none⟩) hx).trans Z0.out
  have y31 := (BX3.out.cell (p := ⟨bx, 1, none⟩) hx).trans Z1.out
  have y32 := (BX3.out.cell (p := ⟨bx, 2, none⟩) hx).trans Z2.out
  have y33 := (BX3.out.cell (p := ⟨bx, 3, none⟩) hx).trans Z3.out
  have y34 := (BX3.out.cell (p := ⟨bx, 4, none⟩) hx).trans Z4.out
  obtain ⟨x30, x31, x32, x33, x34, _, _⟩ := own5 OX3.out
  clear hb
  refine hK.out _ _ (⟨a3, y30, y31, y32, y33, y34, x30, x31, x32, x33, x34⟩) ?_
  clear hK K hHeld
  intro hHeld
  try simp only [Act.put, List.setIfInBounds_toArray, List.set_cons_zero, List.set_cons_succ]
  refine wpH_take (i := 9) (some 14) (v := ?x26v) rfl (by kernel_rfl) (by kernel_rfl) (by kernel_rfl) rfl (fun _ _ _ h => h) (Or.inl ⟨by rfl, ?x26y⟩) hHeld ?x26r
  case x26y => (intro w hSw; (try dsimp only at hSw); go_simp; try with_reducible rfl)
  try simp only [Act.put, List.setIfInBounds_toArray, List.set_cons_zero, List.set_cons_succ]
  refine wpH_one (i := 10) (by kernel_rfl) rfl (fun K hK => ?_)
  rw [if_pos (by rfl)]
  go_simp
  refine (gcell_any z.s z.o z.p z.m z.u _).mono ?_
  rintro e w4 ⟨rfl, hb⟩
  have BX4 := Lib.hid (belowTo BX3.out hb (by have := BX3.out.size; exact this))
  have OX4 := Lib.hid (OX3.out.below hb)
  have a4 := (BX4.out.cell (p := ⟨ba, 0, none⟩) ha).trans A0.out
  have y40 := (BX4.out.cell (p := ⟨bx, 0, none⟩) hx).trans Z0.out
  have y41 := (BX4.out.cell (p := ⟨bx, 1, none⟩) hx).trans Z1.out
  have y42 := (BX4.out.cell (p := ⟨bx, 2, none⟩) hx).trans Z2.out
  have y43 := (BX4.out.cell (p := ⟨bx, 3, none⟩) hx).trans Z3.out
  have y44 := (BX4.out.cell (p := ⟨bx, 4, none⟩) hx).trans Z4.out
  obtain ⟨x40, x41, x42, x43, x44, _, _⟩ := own5 OX4.out
  clear hb
  refine hK.out _ _ (⟨a4, y40, y41, y42, y43, y44, x40, x41, x42, x43, x44⟩) ?_
  clear hK K hHeld
  intro hHeld
  try simp only [Act.put, List.setIfInBounds_toArray, List.set_cons_zero, List.set_cons_succ]
  refine wpH_take (i := 11) (some 16) (v := ?x28v) rfl (by kernel_rfl) (by kernel_rfl) (by kernel_rfl) rfl (fun _ _ _ h => h) (Or.inl ⟨by rfl, ?x28y⟩) hHeld ?x28r
  case x28y => (intro w hSw; (try dsimp only at hSw); go_simp; try with_reducible rfl)
  try simp only [Act.put, List.setIfInBounds_toArray, List.set_cons_zero, List.set_cons_succ]
  refine wpH_take (i := 12) (some 17) (v := ?x29v) rfl (by kernel_rfl) (by kernel_rfl) (by kernel_rfl) rfl (fun _ _ _ h => h) (Or.inl ⟨by rfl, ?x29y⟩) hHeld ?x29r
  case x29y => (intro w hSw; (try dsimp only at hSw); go_simp; try with_reducible rfl)
  try simp only [Act.put, List.setIfInBounds_toArray, List.set_cons_zero, List.set_cons_succ]
  refine wpH_take (i := 13) (some 4) (v := ?x30v) rfl (by kernel_rfl) (by kernel_rfl) (by kernel_rfl) rfl (fun _ _ _ h => h) (Or.inl ⟨by rfl, ?x30y⟩) hHeld ?x30r
  case x30y => (intro w hSw; (try dsimp only at hSw); go_simp; try with_reducible rfl)
  try simp only [Act.put, List.setIfInBounds_toArray, List.set_cons_zero, List.set_cons_succ]
  refine wpAnyH_done (by kernel_rfl) ?_ _
  go_wp2_with fail
  all_goals (go_ret; exact ⟨rfl, BX4.out⟩)

set_option linter.unusedSimpArgs false in
set_option linter.unusedVariables false in
set_option maxRecDepth 100000 in
set_option maxHeartbeats 2000000 in
theorem wdru_any (bo ba : Nat) (bn : Nat) (zs zo : Int) (d : Us) (w : World) (ho : bo < w.heap.size) (ha : ba < w.heap.size) (hb : bn < w.heap.size) (c0 : w.cell? ⟨bn, 0, none⟩ = some (.int .i64 zs)) (c1 : w.cell? ⟨bn, 1, none⟩ = some (.int .i64 zo)) (co : w.cell? ⟨bo, 0, none⟩ = some (.func (.func 54) #[] #[.pointer (some ⟨bn, 0, none⟩)])) (ca : w.cell? ⟨ba, 0, none⟩ = some (.func (.func 31) #[] #[])) : Calls Try.prog 69 #[.agg #[.int .i64 d.s, .int .i64 d.o, .int .i64 d.p, .int .i64 d.m], .pointer (some ⟨bo, 0, none⟩), .pointer (some ⟨ba, 0, none⟩)] w fun e w' => e = .returned (.bool (d.s == zs && d.o == zo)) ∧ Below w.heap.size w w' := by
  have C0 := Lib.hid c0
  have C1 := Lib.hid c1
  have CO := Lib.hid co
  have CA := Lib.hid ca
  go_enter Try.func69, Try.ntmps69
  go_wp2_with fail
  have OX := Lib.hid (own_at (w := w) [.int .i64 d.s, .int .i64 d.o, .int .i64 d.p, .int .i64 d.m] 32 rfl).drew
  have BX := Lib.hid (belowNew w (.cells [.int .i64 d.s, .int .i64 d.o, .int .i64 d.p, .int .i64 d.m].toArray 32)).drew
  have o0 := (BX.out.cell (p := ⟨bo, 0, none⟩) ho).trans co
  have a0 := (BX.out.cell (p := ⟨ba, 0, none⟩) ha).trans ca
  obtain ⟨x0, x1, x2, x3, _, _⟩ := own4 OX.out
  clear co ca c0 c1
  refine region_H 6 #[false, false, false, false, false, false] (by kernel_rfl) (by kernel_rfl) (fun w' => w'.cell? ⟨bo, 0, none⟩ = some (.func (.func 54) #[] #[.pointer (some ⟨bn, 0, none⟩)]) ∧ w'.cell? ⟨ba, 0, none⟩ = some (.func (.func 31) #[] #[]) ∧ w'.cell? ⟨w.heap.size, 0, none⟩ = some (.int .i64 d.s) ∧ w'.cell? ⟨w.heap.size, 1, none⟩ = some (.int .i64 d.o) ∧ w'.cell? ⟨w.heap.size, 2, none⟩ = some (.int .i64 d.p) ∧ w'.cell? ⟨w.heap.size, 3, none⟩ = some (.int .i64 d.m)) (by kernel_rfl) ?x31s (fun hHeld => ?x31r)
  case x31s => exact ⟨o0, a0, x0, x1, x2, x3⟩
  refine wpH_take (i := 0) (some 5) (v := ?x32v) rfl (by kernel_rfl) (by kernel_rfl) (by kernel_rfl) rfl (fun _ _ _ h => h) (Or.inl ⟨by rfl, ?x32y⟩) hHeld ?x32r
  case x32y => (intro w hSw; (try dsimp only at hSw); go_simp; try with_reducible rfl)
  try simp only [Act.put, List.setIfInBounds_toArray, List.set_cons_zero, List.set_cons_succ]
  refine wpH_take (i := 1) (some 6) (v := ?x33v) rfl (by kernel_rfl) (by kernel_rfl) (by kernel_rfl) rfl (fun _ _ _ h => h) (Or.inl ⟨by rfl, ?x33y⟩) hHeld ?x33r
  case x33y => (intro w hSw; (try dsimp only at hSw); go_simp; try with_reducible rfl)
  try simp only [Act.put, List.setIfInBounds_toArray, List.set_cons_zero, List.set_cons_succ]
  refine wpH_take (i := 2) (some 7) (v := ?x34v) rfl (by kernel_rfl) (by kernel_rfl) (by kernel_rfl) rfl (fun _ _ _ h => h) (Or.inl ⟨by rfl, ?x34y⟩) hHeld ?x34r
  case x34y => (intro w hSw; (try dsimp only at hSw); go_simp; try with_reducible rfl)
  try simp only [Act.put, List.setIfInBounds_toArray, List.set_cons_zero, List.set_cons_succ]
  refine wpH_one (i := 3) (by kernel_rfl) rfl (fun K hK => ?_)
  rw [if_pos (by rfl)]
  go_simp
  refine (uto_any d.s d.o d.p d.m _).mono ?_
  rintro e w1 ⟨rfl, hbb⟩
  have BX1 := Lib.hid (belowTo BX.out hbb (by have := BX.out.size; exact this))
  have OX1 := Lib.hid (OX.out.below hbb)
  have o1 := (BX1.out.cell (p := ⟨bo, 0, none⟩) ho).trans CO.out
  have a1 := (BX1.out.cell (p := ⟨ba, 0, none⟩) ha).trans CA.out
  obtain ⟨x10, x11, x12, x13, _, _⟩ := own4 OX1.out
  clear hbb
  refine hK.out _ _ (⟨o1, a1, x10, x11, x12, x13⟩) ?_
  clear hK K hHeld
  intro hHeld
  try simp only [Act.put, List.setIfInBounds_toArray, List.set_cons_zero, List.set_cons_succ]
  refine wpH_one (i := 4) (by kernel_rfl) rfl (fun K hK => ?_)
  rw [if_pos (by rfl)]
  go_simp
  refine (dru_any bn zs zo d _ (Nat.lt_of_lt_of_le hb BX1.out.size) ((BX1.out.cell (p := ⟨bn, 0, none⟩) hb).trans C0.out) ((BX1.out.cell (p := ⟨bn, 1, none⟩) hb).trans C1.out)).mono ?_
  rintro e w2 ⟨rfl, hbb⟩
  have BX2 := Lib.hid (belowTo BX1.out hbb (by have := BX1.out.size; exact this))
  have OX2 := Lib.hid (OX1.out.below hbb)
  have o2 := (BX2.out.cell (p := ⟨bo, 0, none⟩) ho).trans CO.out
  have a2 := (BX2.out.cell (p := ⟨ba, 0, none⟩) ha).trans CA.out
  obtain ⟨x20, x21, x22, x23, _, _⟩ := own4 OX2.out
  clear hbb
  refine hK.out _ _ (⟨o2, a2, x20, x21, x22, x23⟩) ?_
  clear hK K hHeld
  intro hHeld
  try simp only [Act.put, List.setIfInBounds_toArray, List.set_cons_zero, List.set_cons_succ]
  refine wpH_take (i := 5) (some 4) (v := ?x37v) rfl (by kernel_rfl) (by kernel_rfl) (by kernel_rfl) rfl (fun _ _ _ h => h) (Or.inl ⟨by rfl, ?x37y⟩) hHeld ?x37r
  case x37y => (intro w hSw; (try dsimp only at hSw); go_simp; try with_reducible rfl)
  try simp only [Act.put, List.setIfInBounds_toArray, List.set_cons_zero, List.set_cons_succ]
  refine wpAnyH_done (by kernel_rfl) ?_ _
  go_wp2_with fail
  all_goals (go_ret; exact ⟨rfl, BX2.out⟩)

set_option linter.unusedSimpArgs false in
set_option linter.unusedVariables false in
set_option maxRecDepth 100000 in
set_option maxHeartbeats 2000000 in
theorem wdrg_any (bo ba : Nat) (bn : Nat) (zs zo : Int) (d : Gr) (w : World) (ho : bo < w.heap.size) (ha : ba < w.heap.size) (hb : bn < w.heap.size) (c0 : w.cell? ⟨bn, 0, none⟩ = some (.int .i64 zs)) (c1 : w.cell? ⟨bn, 1, none⟩ = some (.int .i64 zo)) (co : w.cell? ⟨bo, 0, none⟩ = some (.func (.func 56) #[] #[.pointer (some ⟨bn, 0, none⟩)])) (ca : w.cell? ⟨ba, 0, none⟩ = some (.func (.func 38) #[] #[])) : Calls Try.prog 71 #[.agg #[.int .i64 d.s, .int .i64 d.o, .int .i64 d.p, .int .i64 d.m, .int .i64 d.u], .pointer (some ⟨bo, 0, none⟩), .pointer (some ⟨ba, 0, none⟩)] w fun e w' => e = .returned (.bool (d.s == zs && d.o == zo)) ∧ Below w.heap.size w w' := by
  have C0 := Lib.hid c0
  have C1 := Lib.hid c1
  have CO := Lib.hid co
  have CA := Lib.hid ca
  go_enter Try.func71, Try.ntmps71
  go_wp2_with fail
  have OX := Lib.hid (own_at (w := w) [.int .i64 d.s, .int .i64 d.o, .int .i64 d.p, .int .i64 d.m, .int .i64 d.u] 34 rfl).drew
  have BX := Lib.hid (belowNew w (.cells [.int .i64 d.s, .int .i64 d.o, .int .i64 d.p, .int .i64 d.m, .int .i64 d.u].toArray 34)).drew
  have o0 := (BX.out.cell (p := ⟨bo, 0, none⟩) ho).trans co
  have a0 := (BX.out.cell (p := ⟨ba, 0, none⟩) ha).trans ca
  obtain ⟨x0, x1, x2, x3, x4, _, _⟩ := own5 OX.out
  clear co ca c0 c1
  refine region_H 6 #[false, false, false, false, false, false] (by kernel_rfl) (by kernel_rfl) (fun w' => w'.cell? ⟨bo, 0, none⟩ = some (.func (.func 56) #[] #[.pointer (some ⟨bn, 0, none⟩)]) ∧ w'.cell? ⟨ba, 0, none⟩ = some (.func (.func 38) #[] #[]) ∧ w'.cell? ⟨w.heap.size, 0, none⟩ = some (.int .i64 d.s) ∧ w'.cell? ⟨w.heap.size, 1, none⟩ = some (.int .i64 d.o) ∧ w'.cell? ⟨w.heap.size, 2, none⟩ = some (.int .i64 d.p) ∧ w'.cell? ⟨w.heap.size, 3, none⟩ = some (.int .i64 d.m) ∧ w'.cell? ⟨w.heap.size, 4, none⟩ = some (.int .i64 d.u)) (by kernel_rfl) ?x38s (fun hHeld => ?x38r)
  case x38s => exact ⟨o0, a0, x0, x1, x2, x3, x4⟩
  refine wpH_take (i := 0) (some 5) (v := ?x39v) rfl (by kernel_rfl) (by kernel_rfl) (by kernel_rfl) rfl (fun _ _ _ h => h) (Or.inl ⟨by rfl, ?x39y⟩) hHeld ?x39r
  case x39y => (intro w hSw; (try dsimp only at hSw); go_simp; try with_reducible rfl)
  try simp only [Act.put, List.setIfInBounds_toArray, List.set_cons_zero, List.set_cons_succ]
  refine wpH_take (i := 1) (some 6) (v := ?x40v) rfl (by kernel_rfl) (by kernel_rfl) (by kernel_rfl) rfl (fun _ _ _ h => h) (Or.inl ⟨by rfl, ?x40y⟩) hHeld ?x40r
  case x40y => (intro w hSw; (try dsimp only at hSw); go_simp; try with_reducible rfl)
  try simp only [Act.put, List.setIfInBounds_toArray, List.set_cons_zero, List.set_cons_succ]
  refine wpH_take (i := 2) (some 7) (v := ?x41v) rfl (by kernel_rfl) (by kernel_rfl) (by kernel_rfl) rfl (fun _ _ _ h => h) (Or.inl ⟨by rfl, ?x41y⟩) hHeld ?x41r
  case x41y => (intro w hSw; (try dsimp only at hSw); go_simp; try with_reducible rfl)
  try simp only [Act.put, List.setIfInBounds_toArray, List.set_cons_zero, List.set_cons_succ]
  refine wpH_one (i := 3) (by kernel_rfl) rfl (fun K hK => ?_)
  rw [if_pos (by rfl)]
  go_simp
  refine (gto_any d.s d.o d.p d.m d.u _).mono ?_
  rintro e w1 ⟨rfl, hbb⟩
  have BX1 := Lib.hid (belowTo BX.out hbb (by have := BX.out.size; exact this))
  have OX1 := Lib.hid (OX.out.below hbb)
  have o1 := (BX1.out.cell (p := ⟨bo, 0, none⟩) ho).trans CO.out
  have a1 := (BX1.out.cell (p := ⟨ba, 0, none⟩) ha).trans CA.out
  obtain ⟨x10, x11, x12, x13, x14, _, _⟩ := own5 OX1.out
  clear hbb
  refine hK.out _ _ (⟨o1, a1, x10, x11, x12, x13, x14⟩) ?_
  clear hK K hHeld
  intro hHeld
  try simp only [Act.put, List.setIfInBounds_toArray, List.set_cons_zero, List.set_cons_succ]
  refine wpH_one (i := 4) (by kernel_rfl) rfl (fun K hK => ?_)
  rw [if_pos (by rfl)]
  go_simp
  refine (drg_any bn zs zo d _ (Nat.lt_of_lt_of_le hb BX1.out.size) ((BX1.out.cell (p := ⟨bn, 0, none⟩) hb).trans C0.out) ((BX1.out.cell (p := ⟨bn, 1, none⟩) hb).trans C1.out)).mono ?_
  rintro e w2 ⟨rfl, hbb⟩
  have BX2 := Lib.hid (belowTo BX1.out hbb (by have := BX1.out.size; exact this))
  have OX2 := Lib.hid (OX1.out.below hbb)
  have o2 := (BX2.out.cell (p := ⟨bo, 0, none⟩) ho).trans CO.out
  have a2 := (BX2.out.cell (p := ⟨ba, 0, none⟩) ha).trans CA.out
  obtain ⟨x20, x21, x22, x23, x24, _, _⟩ := own5 OX2.out
  clear hbb
  refine hK.out _ _ (⟨o2, a2, x20, x21, x22, x23, x24⟩) ?_
  clear hK K hHeld
  intro hHeld
  try simp only [Act.put, List.setIfInBounds_toArray, List.set_cons_zero, List.set_cons_succ]
  refine wpH_take (i := 5) (some 4) (v := ?x44v) rfl (by kernel_rfl) (by kernel_rfl) (by kernel_rfl) rfl (fun _ _ _ h => h) (Or.inl ⟨by rfl, ?x44y⟩) hHeld ?x44r
  case x44y => (intro w hSw; (try dsimp only at hSw); go_simp; try with_reducible rfl)
  try simp only [Act.put, List.setIfInBounds_toArray, List.set_cons_zero, List.set_cons_succ]
  refine wpAnyH_done (by kernel_rfl) ?_ _
  go_wp2_with fail
  all_goals (go_ret; exact ⟨rfl, BX2.out⟩)

set_option linter.unusedSimpArgs false in
set_option linter.unusedVariables false in
set_option maxRecDepth 100000 in
set_option maxHeartbeats 2000000 in
theorem wdra_any (bo ba : Nat) (bn : Nat) (zs zo : Int) (d : Ak) (w : World) (ho : bo < w.heap.size) (ha : ba < w.heap.size) (hb : bn < w.heap.size) (c0 : w.cell? ⟨bn, 0, none⟩ = some (.int .i64 zs)) (c1 : w.cell? ⟨bn, 1, none⟩ = some (.int .i64 zo)) (co : w.cell? ⟨bo, 0, none⟩ = some (.func (.func 58) #[] #[.pointer (some ⟨bn, 0, none⟩)])) (ca : w.cell? ⟨ba, 0, none⟩ = some (.func (.func 46) #[] #[])) : Calls Try.prog 73 #[.agg #[.int .i64 d.s, .int .i64 d.o, .int .i64 d.p], .pointer (some ⟨bo, 0, none⟩), .pointer (some ⟨ba, 0, none⟩)] w fun e w' => e = .returned (.bool (d.s == zs && d.o == zo)) ∧ Below w.heap.size w w' := by
  have C0 := Lib.hid c0
  have C1 := Lib.hid c1
  have CO := Lib.hid co
  have CA := Lib.hid ca
  go_enter Try.func73, Try.ntmps73
  go_wp2_with fail
  have OX := Lib.hid (own_at (w := w) [.int .i64 d.s, .int .i64 d.o, .int .i64 d.p] 51 rfl).drew
  have BX := Lib.hid (belowNew w (.cells [.int .i64 d.s, .int .i64 d.o, .int .i64 d.p].toArray 51)).drew
  have o0 := (BX.out.cell (p := ⟨bo, 0, none⟩) ho).trans co
  have a0 := (BX.out.cell (p := ⟨ba, 0, none⟩) ha).trans ca
  obtain ⟨x0, x1, x2, _, _⟩ := own3 OX.out
  clear co ca c0 c1
  refine region_H 6 #[false, false, false, false, false, false] (by kernel_rfl) (by kernel_rfl) (fun w' => w'.cell? ⟨bo, 0, none⟩ = some (.func (.func 58) #[] #[.pointer (some ⟨bn, 0, none⟩)]) ∧ w'.cell? ⟨ba, 0, none⟩ = some (.func (.func 46) #[] #[]) ∧ w'.cell? ⟨w.heap.size, 0, none⟩ = some (.int .i64 d.s) ∧ w'.cell? ⟨w.heap.size, 1, none⟩ = some (.int .i64 d.o) ∧ w'.cell? ⟨w.heap.size, 2, none⟩ = some (.int .i64 d.p)) (by kernel_rfl) ?x45s (fun hHeld => ?x45r)
  case x45s => exact ⟨o0, a0, x0, x1, x2⟩
  refine wpH_take (i := 0) (some 5) (v := ?x46v) rfl (by kernel_rfl) (by kernel_rfl) (by kernel_rfl) rfl (fun _ _ _ h => h) (Or.inl ⟨by rfl, ?x46y⟩) hHeld ?x46r
  case x46y => (intro w hSw; (try dsimp only at hSw); go_simp; try with_reducible rfl)
  try simp only [Act.put, List.setIfInBounds_toArray, List.set_cons_zero, List.set_cons_succ]
  refine wpH_take (i := 1) (some 6) (v := ?x47v) rfl (by kernel_rfl) (by kernel_rfl) (by kernel_rfl) rfl (fun _ _ _ h => h) (Or.inl ⟨by rfl, ?x47y⟩) hHeld ?x47r
  case x47y => (intro w hSw; (try dsimp only at hSw); go_simp; try with_reducible rfl)
  try simp only [Act.put, List.setIfInBounds_toArray, List.set_cons_zero, List.set_cons_succ]
  refine wpH_take (i := 2) (some 7) (v := ?x48v) rfl (by kernel_rfl) (by kernel_rfl) (by kernel_rfl) rfl (fun _ _ _ h => h) (Or.inl ⟨by rfl, ?x48y⟩) hHeld ?x48r
  case x48y => (intro w hSw; (try dsimp only at hSw); go_simp; try with_reducible rfl)
  try simp only [Act.put, List.setIfInBounds_toArray, List.set_cons_zero, List.set_cons_succ]
  refine wpH_one (i := 3) (by kernel_rfl) rfl (fun K hK => ?_)
  rw [if_pos (by rfl)]
  go_simp
  refine (ato_any d.s d.o d.p _).mono ?_
  rintro e w1 ⟨rfl, hbb⟩
  have BX1 := Lib.hid (belowTo BX.out hbb (by have := BX.out.size; exact this))
  have OX1 := Lib.hid (OX.out.below hbb)
  have o1 := (BX1.out.cell (p := ⟨bo, 0, none⟩) ho).trans CO.out
  have a1 := (BX1.out.cell (p := ⟨ba, 0, none⟩) ha).trans CA.out
  obtain ⟨x10, x11, x12, _, _⟩ := own3 OX1.out
  clear hbb
  refine hK.out _ _ (⟨o1, a1, x10, x11, x12⟩) ?_
  clear hK K hHeld
  intro hHeld
  try simp only [Act.put, List.setIfInBounds_toArray, List.set_cons_zero, List.set_cons_succ]
  refine wpH_one (i := 4) (by kernel_rfl) rfl (fun K hK => ?_)
  rw [if_pos (by rfl)]
  go_simp
  refine (dra_any bn zs zo d _ (Nat.lt_of_lt_of_le hb BX1.out.size) ((BX1.out.cell (p := ⟨bn, 0, none⟩) hb).trans C0.out) ((BX1.out.cell (p := ⟨bn, 1, none⟩) hb).trans C1.out)).mono ?_
  rintro e w2 ⟨rfl, hbb⟩
  have BX2 := Lib.hid (belowTo BX1.out hbb (by have := BX1.out.size; exact this))
  have OX2 := Lib.hid (OX1.out.below hbb)
  have o2 := (BX2.out.cell (p := ⟨bo, 0, none⟩) ho).trans CO.out
  have a2 := (BX2.out.cell (p := ⟨ba, 0, none⟩) ha).trans CA.out
  obtain ⟨x20, x21, x22, _, _⟩ := own3 OX2.out
  clear hbb
  refine hK.out _ _ (⟨o2, a2, x20, x21, x22⟩) ?_
  clear hK K hHeld
  intro hHeld
  try simp only [Act.put, List.setIfInBounds_toArray, List.set_cons_zero, List.set_cons_succ]
  refine wpH_take (i := 5) (some 4) (v := ?x51v) rfl (by kernel_rfl) (by kernel_rfl) (by kernel_rfl) rfl (fun _ _ _ h => h) (Or.inl ⟨by rfl, ?x51y⟩) hHeld ?x51r
  case x51y => (intro w hSw; (try dsimp only at hSw); go_simp; try with_reducible rfl)
  try simp only [Act.put, List.setIfInBounds_toArray, List.set_cons_zero, List.set_cons_succ]
  refine wpAnyH_done (by kernel_rfl) ?_ _
  go_wp2_with fail
  all_goals (go_ret; exact ⟨rfl, BX2.out⟩)

set_option linter.unusedSimpArgs false in
set_option linter.unusedVariables false in
set_option maxRecDepth 100000 in
set_option maxHeartbeats 2000000 in
theorem wexg_any (bo ba : Nat) (bn : Nat) (zs : Int) (d : Gr) (w : World) (ho : bo < w.heap.size) (ha : ba < w.heap.size) (hb : bn < w.heap.size) (c0 : w.cell? ⟨bn, 0, none⟩ = some (.int .i64 zs)) (co : w.cell? ⟨bo, 0, none⟩ = some (.func (.func 59) #[] #[.pointer (some ⟨bn, 0, none⟩)])) (ca : w.cell? ⟨ba, 0, none⟩ = some (.func (.func 38) #[] #[])) : Calls Try.prog 71 #[.agg #[.int .i64 d.s, .int .i64 d.o, .int .i64 d.p, .int .i64 d.m, .int .i64 d.u], .pointer (some ⟨bo, 0, none⟩), .pointer (some ⟨ba, 0, none⟩)] w fun e w' => e = .returned (.bool (decide (d.u < zs))) ∧ Below w.heap.size w w' := by
  have C0 := Lib.hid c0
  have CO := Lib.hid co
  have CA := Lib.hid ca
  go_enter Try.func71, Try.ntmps71
  go_wp2_with fail
  have OX := Lib.hid (own_at (w := w) [.int .i64 d.s, .int .i64 d.o, .int .i64 d.p, .int .i64 d.m, .int .i64 d.u] 34 rfl).drew
  have BX := Lib.hid (belowNew w (.cells [.int .i64 d.s, .int .i64 d.o, .int .i64 d.p, .int .i64 d.m, .int .i64 d.u].toArray 34)).drew
  have o0 := (BX.out.cell (p := ⟨bo, 0, none⟩) ho).trans co
  have a0 := (BX.out.cell (p := ⟨ba, 0, none⟩) ha).trans ca
  obtain ⟨x0, x1, x2, x3, x4, _, _⟩ := own5 OX.out
  clear co ca c0
  refine region_H 6 #[false, false, false, false, false, false] (by kernel_rfl) (by kernel_rfl) (fun w' => w'.cell? ⟨bo, 0, none⟩ = some (.func (.func 59) #[] #[.pointer (some ⟨bn, 0, none⟩)]) ∧ w'.cell? ⟨ba, 0, none⟩ = some (.func (.func 38) #[] #[]) ∧ w'.cell? ⟨w.heap.size, 0, none⟩ = some (.int .i64 d.s) ∧ w'.cell? ⟨w.heap.size, 1, none⟩ = some (.int .i64 d.o) ∧ w'.cell? ⟨w.heap.size, 2, none⟩ = some (.int .i64 d.p) ∧ w'.cell? ⟨w.heap.size, 3, none⟩ = some (.int .i64 d.m) ∧ w'.cell? ⟨w.heap.size, 4, none⟩ = some (.int .i64 d.u)) (by kernel_rfl) ?x52s (fun hHeld => ?x52r)
  case x52s => exact ⟨o0, a0, x0, x1, x2, x3, x4⟩
  refine wpH_take (i := 0) (some 5) (v := ?x53v) rfl (by kernel_rfl) (by kernel_rfl) (by kernel_rfl) rfl (fun _ _ _ h => h) (Or.inl ⟨by rfl, ?x53y⟩) hHeld ?x53r
  case x53y => (intro w hSw; (try dsimp only at hSw); go_simp; try with_reducible rfl)
  try simp only [Act.put, List.setIfInBounds_toArray, List.set_cons_zero, List.set_cons_succ]
  refine wpH_take (i := 1) (some 6) (v := ?x54v) rfl (by kernel_rfl) (by kernel_rfl) (by kernel_rfl) rfl (fun _ _ _ h => h) (Or.inl ⟨by rfl, ?x54y⟩) hHeld ?x54r
  case x54y => (intro w hSw; (try dsimp only at hSw); go_simp; try with_reducible rfl)
  try simp only [Act.put, List.setIfInBounds_toArray, List.set_cons_zero, List.set_cons_succ]
  refine wpH_take (i := 2) (some 7) (v := ?x55v) rfl (by kernel_rfl) (by kernel_rfl) (by kernel_rfl) rfl (fun _ _ _ h => h) (Or.inl ⟨by rfl, ?x55y⟩) hHeld ?x55r
  case x55y => (intro w hSw; (try dsimp only at hSw); go_simp; try with_reducible rfl)
  try simp only [Act.put, List.setIfInBounds_toArray, List.set_cons_zero, List.set_cons_succ]
  refine wpH_one (i := 3) (by kernel_rfl) rfl (fun K hK => ?_)
  rw [if_pos (by rfl)]
  go_simp
  refine (gto_any d.s d.o d.p d.m d.u _).mono ?_
  rintro e w1 ⟨rfl, hbb⟩
  have BX1 := Lib.hid (belowTo BX.out hbb (by have := BX.out.size; exact this))
  have OX1 := Lib.hid (OX.out.below hbb)
  have o1 := (BX1.out.cell (p := ⟨bo, 0, none⟩) ho).trans CO.out
  have a1 := (BX1.out.cell (p := ⟨ba, 0, none⟩) ha).trans CA.out
  obtain ⟨x10, x11, x12, x13, x14, _, _⟩ := own5 OX1.out
  clear hbb
  refine hK.out _ _ (⟨o1, a1, x10, x11, x12, x13, x14⟩) ?_
  clear hK K hHeld
  intro hHeld
  try simp only [Act.put, List.setIfInBounds_toArray, List.set_cons_zero, List.set_cons_succ]
  refine wpH_one (i := 4) (by kernel_rfl) rfl (fun K hK => ?_)
  rw [if_pos (by rfl)]
  go_simp
  refine (exg_any bn zs d _ (Nat.lt_of_lt_of_le hb BX1.out.size) ((BX1.out.cell (p := ⟨bn, 0, none⟩) hb).trans C0.out)).mono ?_
  rintro e w2 ⟨rfl, hbb⟩
  have BX2 := Lib.hid (belowTo BX1.out hbb (by have := BX1.out.size; exact this))
  have OX2 := Lib.hid (OX1.out.below hbb)
  have o2 := (BX2.out.cell (p := ⟨bo, 0, none⟩) ho).trans CO.out
  have a2 := (BX2.out.cell (p := ⟨ba, 0, none⟩) ha).trans CA.out
  obtain ⟨x20, x21, x22, x23, x24, _, _⟩ := own5 OX2.out
  clear hbb
  refine hK.out _ _ (⟨o2, a2, x20, x21, x22, x23, x24⟩) ?_
  clear hK K hHeld
  intro hHeld
  try simp only [Act.put, List.setIfInBounds_toArray, List.set_cons_zero, List.set_cons_succ]
  refine wpH_take (i := 5) (some 4) (v := ?x58v) rfl (by kernel_rfl) (by kernel_rfl) (by kernel_rfl) rfl (fun _ _ _ h => h) (Or.inl ⟨by rfl, ?x58y⟩) hHeld ?x58r
  case x58y => (intro w hSw; (try dsimp only at hSw); go_simp; try with_reducible rfl)
  try simp only [Act.put, List.setIfInBounds_toArray, List.set_cons_zero, List.set_cons_succ]
  refine wpAnyH_done (by kernel_rfl) ?_ _
  go_wp2_with fail
  all_goals (go_ret; exact ⟨rfl, BX2.out⟩)

set_option linter.unusedSimpArgs false in
set_option linter.unusedVariables false in
set_option maxRecDepth 100000 in
set_option maxHeartbeats 2000000 in
theorem wuna_any (bo ba : Nat) (bn : Nat) (zs : Int) (d : Ak) (w : World) (ho : bo < w.heap.size) (ha : ba < w.heap.size) (hb : bn < w.heap.size) (c0 : w.cell? ⟨bn, 0, none⟩ = some (.int .i64 zs)) (co : w.cell? ⟨bo, 0, none⟩ = some (.func (.func 64) #[] #[.pointer (some ⟨bn, 0, none⟩)])) (ca : w.cell? ⟨ba, 0, none⟩ = some (.func (.func 46) #[] #[])) : Calls Try.prog 73 #[.agg #[.int .i64 d.s, .int .i64 d.o, .int .i64 d.p], .pointer (some ⟨bo, 0, none⟩), .pointer (some ⟨ba, 0, none⟩)] w fun e w' => e = .returned (.bool (d.s == zs)) ∧ Below w.heap.size w w' := by
  have C0 := Lib.hid c0
  have CO := Lib.hid co
  have CA := Lib.hid ca
  go_enter Try.func73, Try.ntmps73
  go_wp2_with fail
  have OX := Lib.hid (own_at (w := w) [.int .i64 d.s, .int .i64 d.o, .int .i64 d.p] 51 rfl).drew
  have BX := Lib.hid (belowNew w (.cells [.int .i64 d.s, .int .i64 d.o, .int .i64 d.p].toArray 51)).drew
  have o0 := (BX.out.cell (p := ⟨bo, 0, none⟩) ho).trans co
  have a0 := (BX.out.cell (p := ⟨ba, 0, none⟩) ha).trans ca
  obtain ⟨x0, x1, x2, _, _⟩ := own3 OX.out
  clear co ca c0
  refine region_H 6 #[false, false, false, false, false, false] (by kernel_rfl) (by kernel_rfl) (fun w' => w'.cell? ⟨bo, 0, none⟩ = some (.func (.func 64) #[] #[.pointer (some ⟨bn, 0, none⟩)]) ∧ w'.cell? ⟨ba, 0, none⟩ = some (.func (.func 46) #[] #[]) ∧ w'.cell? ⟨w.heap.size, 0, none⟩ = some (.int .i64 d.s) ∧ w'.cell? ⟨w.heap.size, 1, none⟩ = some (.int .i64 d.o) ∧ w'.cell? ⟨w.heap.size, 2, none⟩ = some (.int .i64 d.p)) (by kernel_rfl) ?x59s (fun hHeld => ?x59r)
  case x59s => exact ⟨o0, a0, x0, x1, x2⟩
  refine wpH_take (i := 0) (some 5) (v := ?x60v) rfl (by kernel_rfl) (by kernel_rfl) (by kernel_rfl) rfl (fun _ _ _ h => h) (Or.inl ⟨by rfl, ?x60y⟩) hHeld ?x60r
  case x60y => (intro w hSw; (try dsimp only at hSw); go_simp; try with_reducible rfl)
  try simp only [Act.put, List.setIfInBounds_toArray, List.set_cons_zero, List.set_cons_succ]
  refine wpH_take (i := 1) (some 6) (v := ?x61v) rfl (by kernel_rfl) (by kernel_rfl) (by kernel_rfl) rfl (fun _ _ _ h => h) (Or.inl ⟨by rfl, ?x61y⟩) hHeld ?x61r
  case x61y => (intro w hSw; (try dsimp only at hSw); go_simp; try with_reducible rfl)
  try simp only [Act.put, List.setIfInBounds_toArray, List.set_cons_zero, List.set_cons_succ]
  refine wpH_take (i := 2) (some 7) (v := ?x62v) rfl (by kernel_rfl) (by kernel_rfl) (by kernel_rfl) rfl (fun _ _ _ h => h) (Or.inl ⟨by rfl, ?x62y⟩) hHeld ?x62r
  case x62y => (intro w hSw; (try dsimp only at hSw); go_simp; try with_reducible rfl)
  try simp only [Act.put, List.setIfInBounds_toArray, List.set_cons_zero, List.set_cons_succ]
  refine wpH_one (i := 3) (by kernel_rfl) rfl (fun K hK => ?_)
  rw [if_pos (by rfl)]
  go_simp
  refine (ato_any d.s d.o d.p _).mono ?_
  rintro e w1 ⟨rfl, hbb⟩
  have BX1 := Lib.hid (belowTo BX.out hbb (by have := BX.out.size; exact this))
  have OX1 := Lib.hid (OX.out.below hbb)
  have o1 := (BX1.out.cell (p := ⟨bo, 0, none⟩) ho).trans CO.out
  have a1 := (BX1.out.cell (p := ⟨ba, 0, none⟩) ha).trans CA.out
  obtain ⟨x10, x11, x12, _, _⟩ := own3 OX1.out
  clear hbb
  refine hK.out _ _ (⟨o1, a1, x10, x11, x12⟩) ?_
  clear hK K hHeld
  intro hHeld
  try simp only [Act.put, List.setIfInBounds_toArray, List.set_cons_zero, List.set_cons_succ]
  refine wpH_one (i := 4) (by kernel_rfl) rfl (fun K hK => ?_)
  rw [if_pos (by rfl)]
  go_simp
  refine (una_any bn zs d _ (Nat.lt_of_lt_of_le hb BX1.out.size) ((BX1.out.cell (p := ⟨bn, 0, none⟩) hb).trans C0.out)).mono ?_
  rintro e w2 ⟨rfl, hbb⟩
  have BX2 := Lib.hid (belowTo BX1.out hbb (by have := BX1.out.size; exact this))
  have OX2 := Lib.hid (OX1.out.below hbb)
  have o2 := (BX2.out.cell (p := ⟨bo, 0, none⟩) ho).trans CO.out
  have a2 := (BX2.out.cell (p := ⟨ba, 0, none⟩) ha).trans CA.out
  obtain ⟨x20, x21, x22, _, _⟩ := own3 OX2.out
  clear hbb
  refine hK.out _ _ (⟨o2, a2, x20, x21, x22⟩) ?_
  clear hK K hHeld
  intro hHeld
  try simp only [Act.put, List.setIfInBounds_toArray, List.set_cons_zero, List.set_cons_succ]
  refine wpH_take (i := 5) (some 4) (v := ?x65v) rfl (by kernel_rfl) (by kernel_rfl) (by kernel_rfl) rfl (fun _ _ _ h => h) (Or.inl ⟨by rfl, ?x65y⟩) hHeld ?x65r
  case x65y => (intro w hSw; (try dsimp only at hSw); go_simp; try with_reducible rfl)
  try simp only [Act.put, List.setIfInBounds_toArray, List.set_cons_zero, List.set_cons_succ]
  refine wpAnyH_done (by kernel_rfl) ?_ _
  go_wp2_with fail
  all_goals (go_ret; exact ⟨rfl, BX2.out⟩)

end Go.Proofs.Ytdmadnoijhmbcaa
