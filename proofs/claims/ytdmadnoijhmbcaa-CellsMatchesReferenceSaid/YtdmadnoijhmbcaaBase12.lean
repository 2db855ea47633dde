/- Contracts of the small functions of package cells and of its reference. -/
import Derived.Test.YtdmadnoijhmbcaaProg
import Derived.Test.YtdmadnoijhmbcaaPlain12
import Derived.WalkKit
import Derived.IntWalk
namespace Go.Proofs.Ytdmadnoijhmbcaa
open Go.RowKit

theorem own5 {w : World} {b : Nat} {t : TypeId} {x0 x1 x2 x3 x4 : Value} (h : Own w b [x0, x1, x2, x3, x4] t) : w.cell? ⟨b, 0, none⟩ = some x0 ∧ w.cell? ⟨b, 1, none⟩ = some x1 ∧ w.cell? ⟨b, 2, none⟩ = some x2 ∧ w.cell? ⟨b, 3, none⟩ = some x3 ∧ w.cell? ⟨b, 4, none⟩ = some x4 ∧ (∀ o, w.frozen? ⟨b, o, none⟩ = false) ∧ b < w.heap.size := ⟨h.cell rfl, h.cell rfl, h.cell rfl, h.cell rfl, h.cell rfl, h.frozen, h.lt⟩

set_option linter.unusedSimpArgs false in
set_option linter.unusedVariables false in
set_option maxRecDepth 100000 in
set_option maxHeartbeats 2000000 in
theorem placed_any (s o p N D : Int) (w : World) : Calls Try.prog 95 #[.agg #[.int .i64 s, .int .i64 o], .int .i64 p, .agg #[.int .i64 N, .int .i64 D]] w fun e w' => e = .returned (.bool (plcB s o p N D)) ∧ Below w.heap.size w w' := by
  go_enter Try.func95, Try.ntmps95
  go_wp2
  all_goals (go_ret; exact ⟨ret_bool (by first | (simp [plcB, *]; done) | (simp [plcB, *]; omega)), ((Below.refl _ _).alloc (Nat.le_refl _) _).alloc (by simp) _⟩)
theorem placed_lit (s o p N D : Int) (x : Bool) (w : World) (h : plcB s o p N D = x) : Calls Try.prog 95 #[.agg #[.int .i64 s, .int .i64 o], .int .i64 p, .agg #[.int .i64 N, .int .i64 D]] w fun e w' => e = .returned (.bool x) ∧ Below w.heap.size w w' := by
  have := placed_any s o p N D w
  rwa [h] at this

set_option linter.unusedSimpArgs false in
set_option linter.unusedVariables false in
set_option maxRecDepth 100000 in
set_option maxHeartbeats 2000000 in
theorem rcell_any (s o p N D : Int) (w : World) : Calls Try.prog 48 #[.agg #[.int .i64 s, .int .i64 o], .int .i64 p, .agg #[.int .i64 N, .int .i64 D]] w fun e w' => e = .returned (.bool (plcB s o p N D)) ∧ Below w.heap.size w w' := by
  go_enter Try.func48, Try.ntmps48
  go_wp2
  all_goals (go_ret; exact ⟨ret_bool (by first | (simp [plcB, *]; done) | (simp [plcB, *]; omega)), ((Below.refl _ _).alloc (Nat.le_refl _) _).alloc (by simp) _⟩)
theorem rcell_lit (s o p N D : Int) (x : Bool) (w : World) (h : plcB s o p N D = x) : Calls Try.prog 48 #[.agg #[.int .i64 s, .int .i64 o], .int .i64 p, .agg #[.int .i64 N, .int .i64 D]] w fun e w' => e = .returned (.bool x) ∧ Below w.heap.size w w' := by
  have := rcell_any s o p N D w
  rwa [h] at this

set_option linter.unusedSimpArgs false in
set_option linter.unusedVariables false in
set_option maxRecDepth 100000 in
set_option maxHeartbeats 2000000 in
theorem uval_c (s o p m N D : Int) (w : World) : Calls Try.prog 94 #[.agg #[.int .i64 s, .int .i64 o, .int .i64 p, .int .i64 m], .agg #[.int .i64 N, .int .i64 D]] w fun e w' => e = .returned (.bool (usB N D ⟨s, o, p, m⟩)) ∧ Below w.heap.size w w' := by
  cases hp : plcB s o p N D with
  | false =>
    have HP := Lib.hid hp
    clear hp
    go_enter Try.func94, Try.ntmps94
    go_wp2_with fail
    refine (placed_lit s o p N D false _ HP.out).mono ?_
    rintro e w1 ⟨rfl, hb⟩
    have oX : Own w1 w.heap.size [.int .i64 s, .int .i64 o, .int .i64 p, .int .i64 m] 66 := ((own_at _ _ rfl).alloc _).below hb
    have oL : Own w1 (w.heap.size + 1) [.int .i64 N, .int .i64 D] 28 := (own_at _ _ (by simp)).below hb
    have bel := belowTo (((Below.refl w.heap.size w).alloc (by simp) _).alloc (by simp) _) hb (by simp; omega)
    clear hb
    obtain ⟨cX0, cX1, cX2, cX3, fX, zX⟩ := own4 oX
    obtain ⟨cL0, cL1, fL, zL⟩ := own2 oL
    go_wp2_with fail
    all_goals (go_ret; exact ⟨ret_bool (by first | (simp [usB, HP.out, *]; done) | (simp [usB, HP.out, *]; omega)), bel⟩)
  | true =>
    have HP := Lib.hid hp
    clear hp
    go_enter Try.func94, Try.ntmps94
    go_wp2_with fail
    refine (placed_lit s o p N D true _ HP.out).mono ?_
    rintro e w1 ⟨rfl, hb⟩
    have oX : Own w1 w.heap.size [.int .i64 s, .int .i64 o, .int .i64 p, .int .i64 m] 66 := ((own_at _ _ rfl).alloc _).below hb
    have oL : Own w1 (w.heap.size + 1) [.int .i64 N, .int .i64 D] 28 := (own_at _ _ (by simp)).below hb
    have bel := belowTo (((Below.refl w.heap.size w).alloc (by simp) _).alloc (by simp) _) hb (by simp; omega)
    clear hb
    obtain ⟨cX0, cX1, cX2, cX3, fX, zX⟩ := own4 oX
    obtain ⟨cL0, cL1, fL, zL⟩ := own2 oL
    go_wp2_with fail
    all_goals (go_ret; exact ⟨ret_bool (by first | (simp [usB, HP.out, *]; done) | (simp [usB, HP.out, *]; omega)), bel⟩)
theorem uval_lit (d : Us) (N D : Int) (x : Bool) (w : World) (h : usB N D d = x) : Calls Try.prog 94 #[.agg #[.int .i64 d.s, .int .i64 d.o, .int .i64 d.p, .int .i64 d.m], .agg #[.int .i64 N, .int .i64 D]] w fun e w' => e = .returned (.bool x) ∧ Below w.heap.size w w' := by
  have := uval_c d.s d.o d.p d.m N D w
  rwa [show (⟨d.s, d.o, d.p, d.m⟩ : Us) = d from rfl, h] at this

set_option linter.unusedSimpArgs false in
set_option linter.unusedVariables false in
set_option maxRecDepth 100000 in
set_option maxHeartbeats 2000000 in
theorem ruval_c (s o p m N D : Int) (w : World) : Calls Try.prog 26 #[.agg #[.int .i64 s, .int .i64 o, .int .i64 p, .int .i64 m], .agg #[.int .i64 N, .int .i64 D]] w fun e w' => e = .returned (.bool (usB N D ⟨s, o, p, m⟩)) ∧ Below w.heap.size w w' := by
  cases hp : plcB s o p N D with
  | false =>
    have HP := Lib.hid hp
    clear hp
    go_enter Try.func26, Try.ntmps26
    go_wp2_with fail
    refine (rcell_lit s o p N D false _ HP.out).mono ?_
    rintro e w1 ⟨rfl, hb⟩
    have oX : Own w1 w.heap.size [.int .i64 s, .int .i64 o, .int .i64 p, .int .i64 m] 32 := ((own_at _ _ rfl).alloc _).below hb
    have oL : Own w1 (w.heap.size + 1) [.int .i64 N, .int .i64 D] 28 := (own_at _ _ (by simp)).below hb
    have bel := belowTo (((Below.refl w.heap.size w).alloc (by simp) _).alloc (by simp) _) hb (by simp; omega)
    clear hb
    obtain ⟨cX0, cX1, cX2, cX3, fX, zX⟩ := own4 oX
    obtain ⟨cL0, cL1, fL, zL⟩ := own2 oL
    go_wp2_with fail
    all_goals (go_ret; exact ⟨ret_bool (by first | (simp [usB, HP.out, *]; done) | (simp [usB, HP.out, *]; omega)), bel⟩)
  | true =>
    have HP := Lib.hid hp
    clear hp
    go_enter Try.func26, Try.ntmps26
    go_wp2_with fail
    refine (rcell_lit s o p N D true _ HP.out).mono ?_
    rintro e w1 ⟨rfl, hb⟩
    have oX : Own w1 w.heap.size [.int .i64 s, .int .i64 o, .int .i64 p, .int .i64 m] 32 := ((own_at _ _ rfl).alloc _).below hb
    have oL : Own w1 (w.heap.size + 1) [.int .i64 N, .int .i64 D] 28 := (own_at _ _ (by simp)).below hb
    have bel := belowTo (((Below.refl w.heap.size w).alloc (by simp) _).alloc (by simp) _) hb (by simp; omega)
    clear hb
    obtain ⟨cX0, cX1, cX2, cX3, fX, zX⟩ := own4 oX
    obtain ⟨cL0, cL1, fL, zL⟩ := own2 oL
    go_wp2_with fail
    all_goals (go_ret; exact ⟨ret_bool (by first | (simp [usB, HP.out, *]; done) | (simp [usB, HP.out, *]; omega)), bel⟩)
theorem ruval_lit (d : Us) (N D : Int) (x : Bool) (w : World) (h : usB N D d = x) : Calls Try.prog 26 #[.agg #[.int .i64 d.s, .int .i64 d.o, .int .i64 d.p, .int .i64 d.m], .agg #[.int .i64 N, .int .i64 D]] w fun e w' => e = .returned (.bool x) ∧ Below w.heap.size w w' := by
  have := ruval_c d.s d.o d.p d.m N D w
  rwa [show (⟨d.s, d.o, d.p, d.m⟩ : Us) = d from rfl, h] at this

set_option linter.unusedSimpArgs false in
set_option linter.unusedVariables false in
set_option maxRecDepth 100000 in
set_option maxHeartbeats 2000000 in
theorem gval_c (s o p m u N D : Int) (w : World) : Calls Try.prog 97 #[.agg #[.int .i64 s, .int .i64 o, .int .i64 p, .int .i64 m, .int .i64 u], .agg #[.int .i64 N, .int .i64 D]] w fun e w' => e = .returned (.bool (grB N D ⟨s, o, p, m, u⟩)) ∧ Below w.heap.size w w' := by
  cases hp : plcB s o p N D with
  | false =>
    have HP := Lib.hid hp
    clear hp
    go_enter Try.func97, Try.ntmps97
    go_wp2_with fail
    refine (placed_lit s o p N D false _ HP.out).mono ?_
    rintro e w1 ⟨rfl, hb⟩
    have oX : Own w1 w.heap.size [.int .i64 s, .int .i64 o, .int .i64 p, .int .i64 m, .int .i64 u] 73 := ((own_at _ _ rfl).alloc _).below hb
    have oL : Own w1 (w.heap.size + 1) [.int .i64 N, .int .i64 D] 28 := (own_at _ _ (by simp)).below hb
    have bel := belowTo (((Below.refl w.heap.size w).alloc (by simp) _).alloc (by simp) _) hb (by simp; omega)
    clear hb
    obtain ⟨cX0, cX1, cX2, cX3, cX4, fX, zX⟩ := own5 oX
    obtain ⟨cL0, cL1, fL, zL⟩ := own2 oL
    go_wp2_with fail
    all_goals (go_ret; exact ⟨ret_bool (by first | (simp [grB, HP.out, *]; done) | (simp [grB, HP.out, *]; omega)), bel⟩)
  | true =>
    have HP := Lib.hid hp
    clear hp
    go_enter Try.func97, Try.ntmps97
    go_wp2_with fail
    refine (placed_lit s o p N D true _ HP.out).mono ?_
    rintro e w1 ⟨rfl, hb⟩
    have oX : Own w1 w.heap.size [.int .i64 s, .int .i64 o, .int .i64 p, .int .i64 m, .int .i64 u] 73 := ((own_at _ _ rfl).alloc _).below hb
    have oL : Own w1 (w.heap.size + 1) [.int .i64 N, .int .i64 D] 28 := (own_at _ _ (by simp)).below hb
    have bel := belowTo (((Below.refl w.heap.size w).alloc (by simp) _).alloc (by simp) _) hb (by simp; omega)
    clear hb
    obtain ⟨cX0, cX1, cX2, cX3, cX4, fX, zX⟩ := own5 oX
    obtain ⟨cL0, cL1, fL, zL⟩ := own2 oL
    go_wp2_with fail
    all_goals (go_ret; exact ⟨ret_bool (by first | (simp [grB, HP.out, *]; done) | (simp [grB, HP.out, *]; omega)), bel⟩)
theorem gval_lit (d : Gr) (N D : Int) (x : Bool) (w : World) (h : grB N D d = x) : Calls Try.prog 97 #[.agg #[.int .i64 d.s, .int .i64 d.o, .int .i64 d.p, .int .i64 d.m, .int .i64 d.u], .agg #[.int .i64 N, .int .i64 D]] w fun e w' => e = .returned (.bool x) ∧ Below w.heap.size w w' := by
  have := gval_c d.s d.o d.p d.m d.u N D w
  rwa [show (⟨d.s, d.o, d.p, d.m, d.u⟩ : Gr) = d from rfl, h] at this

set_option linter.unusedSimpArgs false in
set_option linter.unusedVariables false in
set_option maxRecDepth 100000 in
set_option maxHeartbeats 2000000 in
theorem rgval_c (s o p m u N D : Int) (w : World) : Calls Try.prog 39 #[.agg #[.int .i64 s, .int .i64 o, .int .i64 p, .int .i64 m, .int .i64 u], .agg #[.int .i64 N, .int .i64 D]] w fun e w' => e = .returned (.bool (grB N D ⟨s, o, p, m, u⟩)) ∧ Below w.heap.size w w' := by
  cases hp : plcB s o p N D with
  | false =>
    have HP := Lib.hid hp
    clear hp
    go_enter Try.func39, Try.ntmps39
    go_wp2_with fail
    refine (rcell_lit s o p N D false _ HP.out).mono ?_
    rintro e w1 ⟨rfl, hb⟩
    have oX : Own w1 w.heap.size [.int .i64 s, .int .i64 o, .int .i64 p, .int .i64 m, .int .i64 u] 34 := ((own_at _ _ rfl).alloc _).below hb
    have oL : Own w1 (w.heap.size + 1) [.int .i64 N, .int .i64 D] 28 := (own_at _ _ (by simp)).below hb
    have bel := belowTo (((Below.refl w.heap.size w).alloc (by simp) _).alloc (by simp) _) hb (by simp; omega)
    clear hb
    obtain ⟨cX0, cX1, cX2, cX3, cX4, fX, zX⟩ := own5 oX
    obtain ⟨cL0, cL1, fL, zL⟩ := own2 oL
    go_wp2_with fail
    all_goals (go_ret; exact ⟨ret_bool (by first | (simp [grB, HP.out, *]; done) | (simp [grB, HP.out, *]; omega)), bel⟩)
  | true =>
    have HP := Lib.hid hp
    clear hp
    go_enter Try.func39, Try.ntmps39
    go_wp2_with fail
    refine (rcell_lit s o p N D true _ HP.out).mono ?_
    rintro e w1 ⟨rfl, hb⟩
    have oX : Own w1 w.heap.size [.int .i64 s, .int .i64 o, .int .i64 p, .int .i64 m, .int .i64 u] 34 := ((own_at _ _ rfl).alloc _).below hb
    have oL : Own w1 (w.heap.size + 1) [.int .i64 N, .int .i64 D] 28 := (own_at _ _ (by simp)).below hb
    have bel := belowTo (((Below.refl w.heap.size w).alloc (by simp) _).alloc (by simp) _) hb (by simp; omega)
    clear hb
    obtain ⟨cX0, cX1, cX2, cX3, cX4, fX, zX⟩ := own5 oX
    obtain ⟨cL0, cL1, fL, zL⟩ := own2 oL
    go_wp2_with fail
    all_goals (go_ret; exact ⟨ret_bool (by first | (simp [grB, HP.out, *]; done) | (simp [grB, HP.out, *]; omega)), bel⟩)
theorem rgval_lit (d : Gr) (N D : Int) (x : Bool) (w : World) (h : grB N D d = x) : Calls Try.prog 39 #[.agg #[.int .i64 d.s, .int .i64 d.o, .int .i64 d.p, .int .i64 d.m, .int .i64 d.u], .agg #[.int .i64 N, .int .i64 D]] w fun e w' => e = .returned (.bool x) ∧ Below w.heap.size w w' := by
  have := rgval_c d.s d.o d.p d.m d.u N D w
  rwa [show (⟨d.s, d.o, d.p, d.m, d.u⟩ : Gr) = d from rfl, h] at this

set_option linter.unusedSimpArgs false in
set_option linter.unusedVariables false in
set_option maxRecDepth 100000 in
set_option maxHeartbeats 2000000 in
theorem aval_c (s o p N D : Int) (w : World) : Calls Try.prog 99 #[.agg #[.int .i64 s, .int .i64 o, .int .i64 p], .agg #[.int .i64 N, .int .i64 D]] w fun e w' => e = .returned (.bool (akB N D ⟨s, o, p⟩)) ∧ Below w.heap.size w w' := by
  cases hp : plcB s o p N D with
  | false =>
    have HP := Lib.hid hp
    clear hp
    go_enter Try.func99, Try.ntmps99
    go_wp2_with fail
    refine (placed_lit s o p N D false _ HP.out).mono ?_
    rintro e w1 ⟨rfl, hb⟩
    have oX : Own w1 w.heap.size [.int .i64 s, .int .i64 o, .int .i64 p] 86 := ((own_at _ _ rfl).alloc _).below hb
    have oL : Own w1 (w.heap.size + 1) [.int .i64 N, .int .i64 D] 28 := (own_at _ _ (by simp)).below hb
    have bel := belowTo (((Below.refl w.heap.size w).alloc (by simp) _).alloc (by simp) _) hb (by simp; omega)
    clear hb
    obtain ⟨cX0, cX1, cX2, fX, zX⟩ := own3 oX
    obtain ⟨cL0, cL1, fL, zL⟩ := own2 oL
    go_wp2_with fail
    all_goals (go_ret; exact ⟨ret_bool (by first | (simp [akB, HP.out, *]; done) | (simp [akB, HP.out, *]; omega)), bel⟩)
  | true =>
    have HP := Lib.hid hp
    clear hp
    go_enter Try.func99, Try.ntmps99
    go_wp2_with fail
    refine (placed_lit s o p N D true _ HP.out).mono ?_
    rintro e w1 ⟨rfl, hb⟩
    have oX : Own w1 w.heap.size [.int .i64 s, .int .i64 o, .int .i64 p] 86 := ((own_at _ _ rfl).alloc _).below hb
    have oL : Own w1 (w.heap.size + 1) [.int .i64 N, .int .i64 D] 28 := (own_at _ _ (by simp)).below hb
    have bel := belowTo (((Below.refl w.heap.size w).alloc (by simp) _).alloc (by simp) _) hb (by simp; omega)
    clear hb
    obtain ⟨cX0, cX1, cX2, fX, zX⟩ := own3 oX
    obtain ⟨cL0, cL1, fL, zL⟩ := own2 oL
    go_wp2_with fail
    all_goals (go_ret; exact ⟨ret_bool (by first | (simp [akB, HP.out, *]; done) | (simp [akB, HP.out, *]; omega)), bel⟩)
theorem aval_lit (d : Ak) (N D : Int) (x : Bool) (w : World) (h : akB N D d = x) : Calls Try.prog 99 #[.agg #[.int .i64 d.s, .int .i64 d.o, .int .i64 d.p], .agg #[.int .i64 N, .int .i64 D]] w fun e w' => e = .returned (.bool x) ∧ Below w.heap.size w w' := by
  have := aval_c d.s d.o d.p N D w
  rwa [show (⟨d.s, d.o, d.p⟩ : Ak) = d from rfl, h] at this

set_option linter.unusedSimpArgs false in
set_option linter.unusedVariables false in
set_option maxRecDepth 100000 in
set_option maxHeartbeats 2000000 in
theorem ucell_any (s o p m : Int) (w : World) : Calls Try.prog 93 #[.agg #[.int .i64 s, .int .i64 o, .int .i64 p, .int .i64 m]] w fun e w' => e = .returned (.agg #[.int .i64 s, .int .i64 o]) ∧ Below w.heap.size w w' := by
  go_enter Try.func93, Try.ntmps93
  go_wp2
  refine bodyPost_ret (v := .agg #[.int .i64 s, .int .i64 o]) (by simp [results, Try.results93, go_sem, *]) rfl ⟨rfl, ?_⟩
  repeat (first | (with_reducible exact Below.refl _ _) | (with_reducible refine belowSet' ?_ _ _ _ ?_) | (with_reducible refine Below.drew ?_) | (with_reducible refine belowN ?_) | (with_reducible refine Below.alloc ?_ ?_ _))
  all_goals (first | omega | (simp; omega) | (simp; done))

set_option linter.unusedSimpArgs false in
set_option linter.unusedVariables false in
set_option maxRecDepth 100000 in
set_option maxHeartbeats 2000000 in
theorem uto_any (s o p m : Int) (w : World) : Calls Try.prog 31 #[.agg #[.int .i64 s, .int .i64 o, .int .i64 p, .int .i64 m]] w fun e w' => e = .returned (.agg #[.int .i64 s, .int .i64 o, .int .i64 p, .int .i64 m]) ∧ Below w.heap.size w w' := by
  go_enter Try.func31, Try.ntmps31
  go_wp2
  refine bodyPost_ret (v := .agg #[.int .i64 s, .int .i64 o, .int .i64 p, .int .i64 m]) (by simp [results, Try.results31, go_sem, *]) rfl ⟨rfl, ?_⟩
  repeat (first | (with_reducible exact Below.refl _ _) | (with_reducible refine belowSet' ?_ _ _ _ ?_) | (with_reducible refine Below.drew ?_) | (with_reducible refine belowN ?_) | (with_reducible refine Below.alloc ?_ ?_ _))
  all_goals (first | omega | (simp; omega) | (simp; done))

set_option linter.unusedSimpArgs false in
set_option linter.unusedVariables false in
set_option maxRecDepth 100000 in
set_option maxHeartbeats 2000000 in
theorem gcell_any (s o p m u : Int) (w : World) : Calls Try.prog 96 #[.agg #[.int .i64 s, .int .i64 o, .int .i64 p, .int .i64 m, .int .i64 u]] w fun e w' => e = .returned (.agg #[.int .i64 s, .int .i64 o]) ∧ Below w.heap.size w w' := by
  go_enter Try.func96, Try.ntmps96
  go_wp2
  refine bodyPost_ret (v := .agg #[.int .i64 s, .int .i64 o]) (by simp [results, Try.results96, go_sem, *]) rfl ⟨rfl, ?_⟩
  repeat (first | (with_reducible exact Below.refl _ _) | (with_reducible refine belowSet' ?_ _ _ _ ?_) | (with_reducible refine Below.drew ?_) | (with_reducible refine belowN ?_) | (with_reducible refine Below.alloc ?_ ?_ _))
  all_goals (first | omega | (simp; omega) | (simp; done))

set_option linter.unusedSimpArgs false in
set_option linter.unusedVariables false in
set_option maxRecDepth 100000 in
set_option maxHeartbeats 2000000 in
theorem gto_any (s o p m u : Int) (w : World) : Calls Try.prog 38 #[.agg #[.int .i64 s, .int .i64 o, .int .i64 p, .int .i64 m, .int .i64 u]] w fun e w' => e = .returned (.agg #[.int .i64 s, .int .i64 o, .int .i64 p, .int .i64 m, .int .i64 u]) ∧ Below w.heap.size w w' := by
  go_enter Try.func38, Try.ntmps38
  go_wp2
  refine bodyPost_ret (v := .agg #[.int .i64 s, .int .i64 o, .int .i64 p, .int .i64 m, .int .i64 u]) (by simp [results, Try.results38, go_sem, *]) rfl ⟨rfl, ?_⟩
  repeat (first | (with_reducible exact Below.refl _ _) | (with_reducible refine belowSet' ?_ _ _ _ ?_) | (with_reducible refine Below.drew ?_) | (with_reducible refine belowN ?_) | (with_reducible refine Below.alloc ?_ ?_ _))
  all_goals (first | omega | (simp; omega) | (simp; done))

set_option linter.unusedSimpArgs false in
set_option linter.unusedVariables false in
set_option maxRecDepth 100000 in
set_option maxHeartbeats 2000000 in
theorem acell_any (s o p : Int) (w : World) : Calls Try.prog 98 #[.agg #[.int .i64 s, .int .i64 o, .int .i64 p]] w fun e w' => e = .returned (.agg #[.int .i64 s, .int .i64 o]) ∧ Below w.heap.size w w' := by
  go_enter Try.func98, Try.ntmps98
  go_wp2
  refine bodyPost_ret (v := .agg #[.int .i64 s, .int .i64 o]) (by simp [results, Try.results98, go_sem, *]) rfl ⟨rfl, ?_⟩
  repeat (first | (with_reducible exact Below.refl _ _) | (with_reducible refine belowSet' ?_ _ _ _ ?_) | (with_reducible refine Below.drew ?_) | (with_reducible refine belowN ?_) | (with_reducible refine Below.alloc ?_ ?_ _))
  all_goals (first | omega | (simp; omega) | (simp; done))

set_option linter.unusedSimpArgs false in
set_option linter.unusedVariables false in
set_option maxRecDepth 100000 in
set_option maxHeartbeats 2000000 in
theorem ato_any (s o p : Int) (w : World) : Calls Try.prog 46 #[.agg #[.int .i64 s, .int .i64 o, .int .i64 p]] w fun e w' => e = .returned (.agg #[.int .i64 s, .int .i64 o, .int .i64 p]) ∧ Below w.heap.size w w' := by
  go_enter Try.func46, Try.ntmps46
  go_wp2
  refine bodyPost_ret (v := .agg #[.int .i64 s, .int .i64 o, .int .i64 p]) (by simp [results, Try.results46, go_sem, *]) rfl ⟨rfl, ?_⟩
  repeat (first | (with_reducible exact Below.refl _ _) | (with_reducible refine belowSet' ?_ _ _ _ ?_) | (with_reducible refine Below.drew ?_) | (with_reducible refine belowN ?_) | (with_reducible refine Below.alloc ?_ ?_ _))
  all_goals (first | omega | (simp; omega) | (simp; done))

set_option linter.unusedSimpArgs false in
set_option linter.unusedVariables false in
set_option maxRecDepth 100000 in
set_option maxHeartbeats 2000000 in
theorem rlay_any (N D : Int) (w : World) : Calls Try.prog 47 #[.agg #[.int .i64 N, .int .i64 D]] w fun e w' => e = .returned (.bool (layB N D)) ∧ Below w.heap.size w w' := by
  go_enter Try.func47, Try.ntmps47
  go_wp2
  all_goals (go_ret; exact ⟨ret_bool (by first | (simp [layB, *]; done) | (simp [layB, *]; omega)), (Below.refl _ _).alloc (Nat.le_refl _) _⟩)
theorem rlay_lit (N D : Int) (x : Bool) (w : World) (h : layB N D = x) : Calls Try.prog 47 #[.agg #[.int .i64 N, .int .i64 D]] w fun e w' => e = .returned (.bool x) ∧ Below w.heap.size w w' := by
  have := rlay_any N D w
  rwa [h] at this

set_option linter.unusedSimpArgs false in
set_option linter.unusedVariables false in
set_option maxRecDepth 100000 in
set_option maxHeartbeats 2000000 in
theorem layout_any (w : World) : Calls Try.prog 27 #[] w fun e w' => e = .returned (.agg #[.int .i64 3, .int .i64 4]) ∧ Below w.heap.size w w' := by
  go_enter Try.func27, Try.ntmps27
  go_wp2
  refine bodyPost_ret (v := .agg #[.int .i64 3, .int .i64 4]) (by simp [results, Try.results27, go_sem, *]) rfl ⟨rfl, ?_⟩
  repeat (first | (with_reducible exact Below.refl _ _) | (with_reducible refine belowSet' ?_ _ _ _ ?_) | (with_reducible refine Below.drew ?_) | (with_reducible refine belowN ?_) | (with_reducible refine Below.alloc ?_ ?_ _))
  all_goals (first | omega | (simp; omega) | (simp; done))

set_option linter.unusedSimpArgs false in
set_option linter.unusedVariables false in
set_option maxRecDepth 100000 in
set_option maxHeartbeats 2000000 in
theorem lcell_any (s o : Int) (w : World) : Calls Try.prog 28 #[.int .i64 s, .int .i64 o] w fun e w' => e = .returned (.agg #[.int .i64 s, .int .i64 o]) ∧ Below w.heap.size w w' := by
  go_enter Try.func28, Try.ntmps28
  go_wp2
  refine bodyPost_ret (v := .agg #[.int .i64 s, .int .i64 o]) (by simp [results, Try.results28, go_sem, *]) rfl ⟨rfl, ?_⟩
  repeat (first | (with_reducible exact Below.refl _ _) | (with_reducible refine belowSet' ?_ _ _ _ ?_) | (with_reducible refine Below.drew ?_) | (with_reducible refine belowN ?_) | (with_reducible refine Below.alloc ?_ ?_ _))
  all_goals (first | omega | (simp; omega) | (simp; done))

end Go.Proofs.Ytdmadnoijhmbcaa
