/- The reference's Same and Few. -/
import Derived.Test.YtdmadnoijhmbcaaDrp12
namespace Go.Proofs.Ytdmadnoijhmbcaa
open Go.RowKit

/-- Whether two lists are the same, entry by entry. -/
def samF {α : Type} (e : α → α → Bool) : List α → List α → Bool
  | [], [] => true
  | a :: l, b :: m => e a b && samF e l m
  | _, _ => false
theorem samF_iff {α : Type} {e : α → α → Bool} (he : ∀ a b, e a b = true ↔ a = b) : ∀ {l m : List α}, samF e l m = true ↔ l = m
  | [], [] => by simp [samF]
  | a :: l, [] => by simp [samF]
  | [], b :: m => by simp [samF]
  | a :: l, b :: m => by simp only [samF, Bool.and_eq_true, he, samF_iff he (l := l) (m := m), List.cons.injEq]
theorem samF_len {α : Type} {e : α → α → Bool} : ∀ {l m : List α}, l.length ≠ m.length → samF e l m = false
  | [], [], h => absurd rfl h
  | a :: l, [], _ => rfl
  | [], b :: m, _ => rfl
  | a :: l, b :: m, h => by
    have : l.length ≠ m.length := fun e => h (by simp [e])
    simp [samF, samF_len this]
theorem samF_step {α : Type} {e : α → α → Bool} {l m : List α} {k : Nat} {a b : α} (h : l[k]? = some a) (h' : m[k]? = some b) : samF e (l.drop k) (m.drop k) = (e a b && samF e (l.drop (k + 1)) (m.drop (k + 1))) := by
  have hl : k < l.length := (List.getElem?_eq_some_iff.1 h).1
  have hm : k < m.length := (List.getElem?_eq_some_iff.1 h').1
  rw [List.drop_eq_getElem_cons hl, List.drop_eq_getElem_cons hm, show l[k] = a from (List.getElem?_eq_some_iff.1 h).2, show m[k] = b from (List.getElem?_eq_some_iff.1 h').2]
  rfl
theorem samF_end {α : Type} {e : α → α → Bool} {l m : List α} {k : Nat} (h : l.length ≤ k) (h' : m.length ≤ k) : samF e (l.drop k) (m.drop k) = true := by
  rw [List.drop_of_length_le h, List.drop_of_length_le h']; rfl
def eqU (a b : Us) : Bool := (a.s == b.s) && (a.o == b.o) && (a.p == b.p) && (a.m == b.m)
theorem eqU_iff (a b : Us) : eqU a b = true ↔ a = b := by
  cases a; cases b
  simp [eqU, and_assoc]
set_option maxRecDepth 100000 in
set_option maxHeartbeats 400000 in
theorem neq_u (a b : Us) (w : World) : (binOp .neq 32 (.agg #[.int .i64 a.s, .int .i64 a.o, .int .i64 a.p, .int .i64 a.m]) (.agg #[.int .i64 b.s, .int .i64 b.o, .int .i64 b.p, .int .i64 b.m])).run Try.prog w = .ok (.bool (!eqU a b)) w := by
  go_simp
  simp only [eqU]
  by_cases h0 : a.s = b.s
  case neg => simp [h0]
  by_cases h1 : a.o = b.o
  case neg => simp [h0, h1]
  by_cases h2 : a.p = b.p
  case neg => simp [h0, h1, h2]
  by_cases h3 : a.m = b.m
  case neg => simp [h0, h1, h2, h3]
  simp [h0, h1, h2, h3]
set_option maxRecDepth 100000 in
set_option maxHeartbeats 400000 in
theorem eql_u (a b : Us) (w : World) : (binOp .eql 32 (.agg #[.int .i64 a.s, .int .i64 a.o, .int .i64 a.p, .int .i64 a.m]) (.agg #[.int .i64 b.s, .int .i64 b.o, .int .i64 b.p, .int .i64 b.m])).run Try.prog w = .ok (.bool (eqU a b)) w := by
  go_simp
  simp only [eqU]
  by_cases h0 : a.s = b.s
  case neg => simp [h0]
  by_cases h1 : a.o = b.o
  case neg => simp [h0, h1]
  by_cases h2 : a.p = b.p
  case neg => simp [h0, h1, h2]
  by_cases h3 : a.m = b.m
  case neg => simp [h0, h1, h2, h3]
  simp [h0, h1, h2, h3]
theorem neq_u_lit (a b : Us) (x : Bool) (h : eqU a b = x) (w : World) : (binOp .neq 32 (.agg #[.int .i64 a.s, .int .i64 a.o, .int .i64 a.p, .int .i64 a.m]) (.agg #[.int .i64 b.s, .int .i64 b.o, .int .i64 b.p, .int .i64 b.m])).run Try.prog w = .ok (.bool (!x)) w := by rw [← h]; exact neq_u a b w
theorem eql_u_lit (a b : Us) (x : Bool) (h : eqU a b = x) (w : World) : (binOp .eql 32 (.agg #[.int .i64 a.s, .int .i64 a.o, .int .i64 a.p, .int .i64 a.m]) (.agg #[.int .i64 b.s, .int .i64 b.o, .int .i64 b.p, .int .i64 b.m])).run Try.prog w = .ok (.bool x) w := by rw [← h]; exact eql_u a b w
def eqG (a b : Gr) : Bool := (a.s == b.s) && (a.o == b.o) && (a.p == b.p) && (a.m == b.m) && (a.u == b.u)
theorem eqG_iff (a b : Gr) : eqG a b = true ↔ a = b := by
  cases a; cases b
  simp [eqG, and_assoc]
set_option maxRecDepth 100000 in
set_option maxHeartbeats 400000 in
theorem neq_g (a b : Gr) (w : World) : (binOp .neq 34 (.agg #[.int .i64 a.s, .int .i64 a.o, .int .i64 a.p, .int .i64 a.m, .int .i64 a.u]) (.agg #[.int .i64 b.s, .int .i64 b.o, .int .i64 b.p, .int .i64 b.m, .int .i64 b.u])).run Try.prog w = .ok (.bool (!eqG a b)) w := by
  go_simp
  simp only [eqG]
  by_cases h0 : a.s = b.s
  case neg => simp [h0]
  by_cases h1 : a.o = b.o
  case neg => simp [h0, h1]
  by_cases h2 : a.p = b.p
  case neg => simp [h0, h1, h2]
  by_cases h3 : a.m = b.m
  case neg => simp [h0, h1, h2, h3]
  by_cases h4 : a.u = b.u
  case neg => simp [h0, h1, h2, h3, h4]
  simp [h0, h1, h2, h3, h4]
set_option maxRecDepth 100000 in
set_option maxHeartbeats 400000 in
theorem eql_g (a b : Gr) (w : World) : (binOp .eql 34 (.agg #[.int .i64 a.s, .int .i64 a.o, .int .i64 a.p, .int .i64 a.m, .int .i64 a.u]) (.agg #[.int .i64 b.s, .int .i64 b.o, .int .i64 b.p, .int .i64 b.m, .int .i64 b.u])).run Try.prog w = .ok (.bool (eqG a b)) w := by
  go_simp
  simp only [eqG]
  by_cases h0 : a.s = b.s
  case neg => simp [h0]
  by_cases h1 : a.o = b.o
  case neg => simp [h0, h1]
  by_cases h2 : a.p = b.p
  case neg => simp [h0, h1, h2]
  by_cases h3 : a.m = b.m
  case neg => simp [h0, h1, h2, h3]
  by_cases h4 : a.u = b.u
  case neg => simp [h0, h1, h2, h3, h4]
  simp [h0, h1, h2, h3, h4]
theorem neq_g_lit (a b : Gr) (x : Bool) (h : eqG a b = x) (w : World) : (binOp .neq 34 (.agg #[.int .i64 a.s, .int .i64 a.o, .int .i64 a.p, .int .i64 a.m, .int .i64 a.u]) (.agg #[.int .i64 b.s, .int .i64 b.o, .int .i64 b.p, .int .i64 b.m, .int .i64 b.u])).run Try.prog w = .ok (.bool (!x)) w := by rw [← h]; exact neq_g a b w
theorem eql_g_lit (a b : Gr) (x : Bool) (h : eqG a b = x) (w : World) : (binOp .eql 34 (.agg #[.int .i64 a.s, .int .i64 a.o, .int .i64 a.p, .int .i64 a.m, .int .i64 a.u]) (.agg #[.int .i64 b.s, .int .i64 b.o, .int .i64 b.p, .int .i64 b.m, .int .i64 b.u])).run Try.prog w = .ok (.bool x) w := by rw [← h]; exact eql_g a b w
def eqA (a b : Ak) : Bool := (a.s == b.s) && (a.o == b.o) && (a.p == b.p)
theorem eqA_iff (a b : Ak) : eqA a b = true ↔ a = b := by
  cases a; cases b
  simp [eqA, and_assoc]
set_option maxRecDepth 100000 in
set_option maxHeartbeats 400000 in
theorem neq_a (a b : Ak) (w : World) : (binOp .neq 51 (.agg #[.int .i64 a.s, .int .i64 a.o, .int .i64 a.p]) (.agg #[.int .i64 b.s, .int .i64 b.o, .int .i64 b.p])).run Try.prog w = .ok (.bool (!eqA a b)) w := by
  go_simp
  simp only [eqA]
  by_cases h0 : a.s = b.s
  case neg => simp [h0]
  by_cases h1 : a.o = b.o
  case neg => simp [h0, h1]
  by_cases h2 : a.p = b.p
  case neg => simp [h0, h1, h2]
  simp [h0, h1, h2]
set_option maxRecDepth 100000 in
set_option maxHeartbeats 400000 in
theorem eql_a (a b : Ak) (w : World) : (binOp .eql 51 (.agg #[.int .i64 a.s, .int .i64 a.o, .int .i64 a.p]) (.agg #[.int .i64 b.s, .int .i64 b.o, .int .i64 b.p])).run Try.prog w = .ok (.bool (eqA a b)) w := by
  go_simp
  simp only [eqA]
  by_cases h0 : a.s = b.s
  case neg => simp [h0]
  by_cases h1 : a.o = b.o
  case neg => simp [h0, h1]
  by_cases h2 : a.p = b.p
  case neg => simp [h0, h1, h2]
  simp [h0, h1, h2]
theorem neq_a_lit (a b : Ak) (x : Bool) (h : eqA a b = x) (w : World) : (binOp .neq 51 (.agg #[.int .i64 a.s, .int .i64 a.o, .int .i64 a.p]) (.agg #[.int .i64 b.s, .int .i64 b.o, .int .i64 b.p])).run Try.prog w = .ok (.bool (!x)) w := by rw [← h]; exact neq_a a b w
theorem eql_a_lit (a b : Ak) (x : Bool) (h : eqA a b = x) (w : World) : (binOp .eql 51 (.agg #[.int .i64 a.s, .int .i64 a.o, .int .i64 a.p]) (.agg #[.int .i64 b.s, .int .i64 b.o, .int .i64 b.p])).run Try.prog w = .ok (.bool x) w := by rw [← h]; exact eql_a a b w
def samT (us : List Us) (gs : List Gr) (ks : List Ak) (us' : List Us) (gs' : List Gr) (ks' : List Ak) : Bool := samF eqU us us' && (samF eqG gs gs' && samF eqA ks ks')
theorem samT_iff {us : List Us} {gs : List Gr} {ks : List Ak} {us' : List Us} {gs' : List Gr} {ks' : List Ak} : samT us gs ks us' gs' ks' = true ↔ us = us' ∧ gs = gs' ∧ ks = ks' := by
  simp only [samT, Bool.and_eq_true, samF_iff eqU_iff, samF_iff eqG_iff, samF_iff eqA_iff]
theorem samT_rfl {us : List Us} {gs : List Gr} {ks : List Ak} : samT us gs ks us gs ks = true := samT_iff.2 ⟨rfl, rfl, rfl⟩

set_option linter.unusedSimpArgs false in
set_option linter.unusedVariables false in
set_option maxRecDepth 100000 in
set_option maxHeartbeats 2000000 in
theorem same_t0 (vu vg va vu' vg' va' : Value) (us us' : List Us) (gs gs' : List Gr) (ks ks' : List Ak) (w : World) (su : SlU w vu us) (sg : SlG w vg gs) (sa : SlA w va ks) (su' : SlU w vu' us') (sg' : SlG w vg' gs') (sa' : SlA w va' ks') (u70 : us.length ≤ 100) (g70 : gs.length ≤ 100) (k70 : ks.length ≤ 100)  (hu : ¬ us.length = us'.length) : Calls Try.prog 16 #[.agg #[vu, vg, va], .agg #[vu', vg', va']] w fun e w' => e = .returned (.bool false) ∧ Below w.heap.size w w' := by
  obtain ⟨pu, cu, e0, hlu, hcu, _⟩ := su.form us.length rfl
  subst e0
  have iu : (0 : Int) ≤ (us.length : Int) := Int.natCast_nonneg _
  obtain ⟨pu', cu', e0, hlu', hcu', _⟩ := su'.form us'.length rfl
  subst e0
  have iu' : (0 : Int) ≤ (us'.length : Int) := Int.natCast_nonneg _
  have ju : (us.length : Int) ≤ 100 := by omega
  obtain ⟨pg, cg, e0, hlg, hcg, _⟩ := sg.form gs.length rfl
  subst e0
  have ig : (0 : Int) ≤ (gs.length : Int) := Int.natCast_nonneg _
  obtain ⟨pg', cg', e0, hlg', hcg', _⟩ := sg'.form gs'.length rfl
  subst e0
  have ig' : (0 : Int) ≤ (gs'.length : Int) := Int.natCast_nonneg _
  have jg : (gs.length : Int) ≤ 100 := by omega
  obtain ⟨pa, ca, e0, hla, hca, _⟩ := sa.form ks.length rfl
  subst e0
  have ia : (0 : Int) ≤ (ks.length : Int) := Int.natCast_nonneg _
  obtain ⟨pa', ca', e0, hla', hca', _⟩ := sa'.form ks'.length rfl
  subst e0
  have ia' : (0 : Int) ≤ (ks'.length : Int) := Int.natCast_nonneg _
  have ja : (ks.length : Int) ≤ 100 := by omega
  have BX := Lib.hid (show Below w.heap.size w ((w.alloc (.cells #[.slice pu us.length cu, .slice pg gs.length cg, .slice pa ks.length ca] 26)).alloc (.cells #[.slice pu' us'.length cu', .slice pg' gs'.length cg', .slice pa' ks'.length ca'] 26)) from ((Below.refl _ _).alloc (Nat.le_refl _) _).alloc (by simp) _)
  have SU := Lib.hid (su.below BX.out)
  have SU' := Lib.hid (su'.below BX.out)
  have SG := Lib.hid (sg.below BX.out)
  have SG' := Lib.hid (sg'.below BX.out)
  have SA := Lib.hid (sa.below BX.out)
  have SA' := Lib.hid (sa'.below BX.out)
  clear su sg sa su' sg' sa'
  have zu : ¬ (us.length : Int) = (us'.length : Int) := by omega
  clear hu
  go_enter Try.func16, Try.ntmps16
  go_wp2_with fail
  go_ret
  exact ⟨rfl, BX.out⟩

set_option linter.unusedSimpArgs false in
set_option linter.unusedVariables false in
set_option maxRecDepth 100000 in
set_option maxHeartbeats 2000000 in
theorem same_t1 (vu vg va vu' vg' va' : Value) (us us' : List Us) (gs gs' : List Gr) (ks ks' : List Ak) (w : World) (su : SlU w vu us) (sg : SlG w vg gs) (sa : SlA w va ks) (su' : SlU w vu' us') (sg' : SlG w vg' gs') (sa' : SlA w va' ks') (u70 : us.length ≤ 100) (g70 : gs.length ≤ 100) (k70 : ks.length ≤ 100) (hu : us.length = us'.length) (hg : ¬ gs.length = gs'.length) : Calls Try.prog 16 #[.agg #[vu, vg, va], .agg #[vu', vg', va']] w fun e w' => e = .returned (.bool false) ∧ Below w.heap.size w w' := by
  obtain ⟨pu, cu, e0, hlu, hcu, _⟩ := su.form us.length rfl
  subst e0
  have iu : (0 : Int) ≤ (us.length : Int) := Int.natCast_nonneg _
  obtain ⟨pu', cu', e0, hlu', hcu', _⟩ := su'.form us'.length rfl
  subst e0
  have iu' : (0 : Int) ≤ (us'.length : Int) := Int.natCast_nonneg _
  have ju : (us.length : Int) ≤ 100 := by omega
  obtain ⟨pg, cg, e0, hlg, hcg, _⟩ := sg.form gs.length rfl
  subst e0
  have ig : (0 : Int) ≤ (gs.length : Int) := Int.natCast_nonneg _
  obtain ⟨pg', cg', e0, hlg', hcg', _⟩ := sg'.form gs'.length rfl
  subst e0
  have ig' : (0 : Int) ≤ (gs'.length : Int) := Int.natCast_nonneg _
  have jg : (gs.length : Int) ≤ 100 := by omega
  obtain ⟨pa, ca, e0, hla, hca, _⟩ := sa.form ks.length rfl
  subst e0
  have ia : (0 : Int) ≤ (ks.length : Int) := Int.natCast_nonneg _
  obtain ⟨pa', ca', e0, hla', hca', _⟩ := sa'.form ks'.length rfl
  subst e0
  have ia' : (0 : Int) ≤ (ks'.length : Int) := Int.natCast_nonneg _
  have ja : (ks.length : Int) ≤ 100 := by omega
  have BX := Lib.hid (show Below w.heap.size w ((w.alloc (.cells #[.slice pu us.length cu, .slice pg gs.length cg, .slice pa ks.length ca] 26)).alloc (.cells #[.slice pu' us'.length cu', .slice pg' gs'.length cg', .slice pa' ks'.length ca'] 26)) from ((Below.refl _ _).alloc (Nat.le_refl _) _).alloc (by simp) _)
  have SU := Lib.hid (su.below BX.out)
  have SU' := Lib.hid (su'.below BX.out)
  have SG := Lib.hid (sg.below BX.out)
  have SG' := Lib.hid (sg'.below BX.out)
  have SA := Lib.hid (sa.below BX.out)
  have SA' := Lib.hid (sa'.below BX.out)
  clear su sg sa su' sg' sa'
  have zu : (us.length : Int) = (us'.length : Int) := by omega
  have zg : ¬ (gs.length : Int) = (gs'.length : Int) := by omega
  clear hu hg
  go_enter Try.func16, Try.ntmps16
  go_wp2_with fail
  go_ret
  exact ⟨rfl, BX.out⟩

set_option linter.unusedSimpArgs false in
set_option linter.unusedVariables false in
set_option maxRecDepth 100000 in
set_option maxHeartbeats 2000000 in
theorem same_t2 (vu vg va vu' vg' va' : Value) (us us' : List Us) (gs gs' : List Gr) (ks ks' : List Ak) (w : World) (su : SlU w vu us) (sg : SlG w vg gs) (sa : SlA w va ks) (su' : SlU w vu' us') (sg' : SlG w vg' gs') (sa' : SlA w va' ks') (u70 : us.length ≤ 100) (g70 : gs.length ≤ 100) (k70 : ks.length ≤ 100) (hu : us.length = us'.length) (hg : gs.length = gs'.length) (ha : ¬ ks.length = ks'.length) : Calls Try.prog 16 #[.agg #[vu, vg, va], .agg #[vu', vg', va']] w fun e w' => e = .returned (.bool false) ∧ Below w.heap.size w w' := by
  obtain ⟨pu, cu, e0, hlu, hcu, _⟩ := su.form us.length rfl
  subst e0
  have iu : (0 : Int) ≤ (us.length : Int) := Int.natCast_nonneg _
  obtain ⟨pu', cu', e0, hlu', hcu', _⟩ := su'.form us'.length rfl
  subst e0
  have iu' : (0 : Int) ≤ (us'.length : Int) := Int.natCast_nonneg _
  have ju : (us.length : Int) ≤ 100 := by omega
  obtain ⟨pg, cg, e0, hlg, hcg, _⟩ := sg.form gs.length rfl
  subst e0
  have ig : (0 : Int) ≤ (gs.length : Int) := Int.natCast_nonneg _
  obtain ⟨pg', cg', e0, hlg', hcg', _⟩ := sg'.form gs'.length rfl
  subst e0
  have ig' : (0 : Int) ≤ (gs'.length : Int) := Int.natCast_nonneg _
  have jg : (gs.length : Int) ≤ 100 := by omega
  obtain ⟨pa, ca, e0, hla, hca, _⟩ := sa.form ks.length rfl
  subst e0
  have ia : (0 : Int) ≤ (ks.length : Int) := Int.natCast_nonneg _
  obtain ⟨pa', ca', e0, hla', hca', _⟩ := sa'.form ks'.length rfl
  subst e0
  have ia' : (0 : Int) ≤ (ks'.length : Int) := Int.natCast_nonneg _
  have ja : (ks.length : Int) ≤ 100 := by omega
  have BX := Lib.hid (show Below w.heap.size w ((w.alloc (.cells #[.slice pu us.length cu, .slice pg gs.length cg, .slice pa ks.length ca] 26)).alloc (.cells #[.slice pu' us'.length cu', .slice pg' gs'.length cg', .slice pa' ks'.length ca'] 26)) from ((Below.refl _ _).alloc (Nat.le_refl _) _).alloc (by simp) _)
  have SU := Lib.hid (su.below BX.out)
  have SU' := Lib.hid (su'.below BX.out)
  have SG := Lib.hid (sg.below BX.out)
  have SG' := Lib.hid (sg'.below BX.out)
  have SA := Lib.hid (sa.below BX.out)
  have SA' := Lib.hid (sa'.below BX.out)
  clear su sg sa su' sg' sa'
  have zu : (us.length : Int) = (us'.length : Int) := by omega
  have zg : (gs.length : Int) = (gs'.length : Int) := by omega
  have za : ¬ (ks.length : Int) = (ks'.length : Int) := by omega
  clear hu hg ha
  go_enter Try.func16, Try.ntmps16
  go_wp2_with fail
  go_ret
  exact ⟨rfl, BX.out⟩

set_option linter.unusedSimpArgs false in
set_option linter.unusedVariables false in
set_option maxRecDepth 100000 in
set_option maxHeartbeats 2000000 in
theorem same_ok (vu vg va vu' vg' va' : Value) (us us' : List Us) (gs gs' : List Gr) (ks ks' : List Ak) (w : World) (su : SlU w vu us) (sg : SlG w vg gs) (sa : SlA w va ks) (su' : SlU w vu' us') (sg' : SlG w vg' gs') (sa' : SlA w va' ks') (u70 : us.length ≤ 100) (g70 : gs.length ≤ 100) (k70 : ks.length ≤ 100) (hu : us.length = us'.length) (hg : gs.length = gs'.length) (ha : ks.length = ks'.length) : Calls Try.prog 16 #[.agg #[vu, vg, va], .agg #[vu', vg', va']] w fun e w' => e = .returned (.bool (samT us gs ks us' gs' ks')) ∧ Below w.heap.size w w' := by
  obtain ⟨pu, cu, e0, hlu, hcu, _⟩ := su.form us.length rfl
  subst e0
  have iu : (0 : Int) ≤ (us.length : Int) := Int.natCast_nonneg _
  obtain ⟨pu', cu', e0, hlu', hcu', _⟩ := su'.form us'.length rfl
  subst e0
  have iu' : (0 : Int) ≤ (us'.length : Int) := Int.natCast_nonneg _
  have ju : (us.length : Int) ≤ 100 := by omega
  obtain ⟨pg, cg, e0, hlg, hcg, _⟩ := sg.form gs.length rfl
  subst e0
  have ig : (0 : Int) ≤ (gs.length : Int) := Int.natCast_nonneg _
  obtain ⟨pg', cg', e0, hlg', hcg', _⟩ := sg'.form gs'.length rfl
  subst e0
  have ig' : (0 : Int) ≤ (gs'.length : Int) := Int.natCast_nonneg _
  have jg : (gs.length : Int) ≤ 100 := by omega
  obtain ⟨pa, ca, e0, hla, hca, _⟩ := sa.form ks.length rfl
  subst e0
  have ia : (0 : Int) ≤ (ks.length : Int) := Int.natCast_nonneg _
  obtain ⟨pa', ca', e0, hla', hca', _⟩ := sa'.form ks'.length rfl
  subst e0
  have ia' : (0 : Int) ≤ (ks'.length : Int) := Int.natCast_nonneg _
  have ja : (ks.length : Int) ≤ 100 := by omega
  have BX := Lib.hid (show Below w.heap.size w ((w.alloc (.cells #[.slice pu us.length cu, .slice pg gs.length cg, .slice pa ks.length ca] 26)).alloc (.cells #[.slice pu' us'.length cu', .slice pg' gs'.length cg', .slice pa' ks'.length ca'] 26)) from ((Below.refl _ _).alloc (Nat.le_refl _) _).alloc (by simp) _)
  have SU := Lib.hid (su.below BX.out)
  have SU' := Lib.hid (su'.below BX.out)
  have SG := Lib.hid (sg.below BX.out)
  have SG' := Lib.hid (sg'.below BX.out)
  have SA := Lib.hid (sa.below BX.out)
  have SA' := Lib.hid (sa'.below BX.out)
  clear su sg sa su' sg' sa'
  have zu : ((us.length : Int) != (us'.length : Int)) = false := by simp; omega
  have Hu := Lib.hid hu
  have zg : ((gs.length : Int) != (gs'.length : Int)) = false := by simp; omega
  have Hg := Lib.hid hg
  have za : ((ks.length : Int) != (ks'.length : Int)) = false := by simp; omega
  have Ha := Lib.hid ha
  clear hu hg ha
  go_enter Try.func16, Try.ntmps16
  go_wp2_with fail
  have OT := Lib.hid ((own_at (w := w) [.slice pu us.length cu, .slice pg gs.length cg, .slice pa ks.length ca] 26 rfl).alloc (.cells #[.slice pu' us'.length cu', .slice pg' gs'.length cg', .slice pa' ks'.length ca'] 26))
  have OY := Lib.hid (own_at (w := w.alloc (.cells #[.slice pu us.length cu, .slice pg gs.length cg, .slice pa ks.length ca] 26)) (n := w.heap.size + 1) [.slice pu' us'.length cu', .slice pg' gs'.length cg', .slice pa' ks'.length ca'] 26 (by simp))
  change Code.wp _ _ _ _ ((w.alloc (.cells #[.slice pu us.length cu, .slice pg gs.length cg, .slice pa ks.length ca] 26)).alloc (.cells #[.slice pu' us'.length cu', .slice pg' gs'.length cg', .slice pa' ks'.length ca'] 26))
  generalize ((w.alloc (.cells #[.slice pu us.length cu, .slice pg gs.length cg, .slice pa ks.length ca] 26)).alloc (.cells #[.slice pu' us'.length cu', .slice pg' gs'.length cg', .slice pa' ks'.length ca'] 26)) = w1 at OT OY BX SU SU' SG SG' SA SA' ⊢
  obtain ⟨t0, t1, t2, fT, zT⟩ := own3 OT.out
  obtain ⟨y0, y1, y2, fY, zY⟩ := own3 OY.out
  go_loopw [5] (fun ii wr => ∃ (i : Nat), i ≤ us.length ∧ ii = .int .i64 i ∧ samF eqU us us' = samF eqU (us.drop i) (us'.drop i) ∧ Below w1.heap.size w1 wr) (fun i _ => us.length - (intOf i).toNat)
  case atStart => exact ⟨0, by omega, rfl, rfl, Below.refl _ _⟩
  case round =>
    clear t0 t1 t2 fT zT y0 y1 y2 fY zY
    obtain ⟨i, hi, rfl, hT, bel⟩ := hrel
    have HT := Lib.hid hT
    have BE := Lib.hid bel
    clear hT bel
    have j0 : (0 : Int) ≤ (i : Int) := Int.natCast_nonneg _
    have OTr := Lib.hid (OT.out.below BE.out)
    have OYr := Lib.hid (OY.out.below BE.out)
    obtain ⟨t0, t1, t2, fT, zT⟩ := own3 OTr.out
    obtain ⟨y0, y1, y2, fY, zY⟩ := own3 OYr.out
    by_cases hlt : i < us.length
    · obtain ⟨d, b, off, hd, rfl, hbl, _, d0, d1, d2, d3⟩ := SU.out.atU BE.out hlt
      obtain ⟨e, b', off', he, rfl, hbl', _, e0, e1, e2, e3⟩ := SU'.out.atU BE.out (show i < us'.length by have := Hu.out; omega)
      have j1 : (i : Int) < (us.length : Int) := by omega
      have j2 : (i : Int) < (us'.length : Int) := by have := Hu.out; omega
      have HS := Lib.hid (samF_step (e := eqU) hd he)
      clear hd he
      cases hv : eqU d e with
      | false =>
        have HV := Lib.hid hv
        have hq := neq_u_lit d e false hv
        clear hv
        go_wp2_with fail
        refine region_H 11 #[false, false, false, false, false, false, false, false, false, false, false] (by kernel_rfl) (by kernel_rfl) (fun w' => w'.cell? ⟨w.heap.size, 0, none⟩ = some (.slice (some ⟨b, off, none⟩) us.length cu) ∧ w'.cell? ⟨w.heap.size + 1, 0, none⟩ = some (.slice (some ⟨b', off', none⟩) us'.length cu') ∧ w'.cell? ⟨b, off + i * 4, none⟩ = some (.int .i64 d.s) ∧ w'.cell? ⟨b, off + i * 4 + 1, none⟩ = some (.int .i64 d.o) ∧ w'.cell? ⟨b, off + i * 4 + 2, none⟩ = some (.int .i64 d.p) ∧ w'.cell? ⟨b, off + i * 4 + 3, none⟩ = some (.int .i64 d.m) ∧ w'.cell? ⟨b', off' + i * 4, none⟩ = some (.int .i64 e.s) ∧ w'.cell? ⟨b', off' + i * 4 + 1, none⟩ = some (.int .i64 e.o) ∧ w'.cell? ⟨b', off' + i * 4 + 2, none⟩ = some (.int .i64 e.p) ∧ w'.cell? ⟨b', off' + i * 4 + 3, none⟩ = some (.int .i64 e.m)) (by kernel_rfl) ?x1s (fun hHeld => ?x1r)
        case x1s => exact ⟨t0, y0, d0, d1, d2, d3, e0, e1, e2, e3⟩
        refine wpH_take (i := 0) (some 40) (v := ?x2v) rfl (by kernel_rfl) (by kernel_rfl) (by kernel_rfl) rfl (fun _ _ _ h => h) (Or.inl ⟨by rfl, ?x2y⟩) hHeld ?x2r
        case x2y => (intro w hSw; (try dsimp only at hSw); go_simp; try with_reducible rfl)
        try simp only [Act.put, List.setIfInBounds_toArray, List.set_cons_zero, List.set_cons_succ]
        refine wpH_take (i := 1) (some 41) (v := ?x3v) rfl (by kernel_rfl) (by kernel_rfl) (by kernel_rfl) rfl (fun _ _ _ h => h) (Or.inl ⟨by rfl, ?x3y⟩) hHeld ?x3r
        case x3y => (intro w hSw; (try dsimp only at hSw); go_simp; try with_reducible rfl)
        try simp only [Act.put, List.setIfInBounds_toArray, List.set_cons_zero, List.set_cons_succ]
        refine wpH_take (i := 2) (some 42) (v := ?x4v) rfl (by kernel_rfl) (by kernel_rfl) (by kernel_rfl) rfl (fun _ _ _ h => h) (Or.inl ⟨by rfl, ?x4y⟩) hHeld ?x4r
        case x4y => (intro w hSw; (try dsimp only at hSw); go_simp; try with_reducible rfl)
        try simp only [Act.put, List.setIfInBounds_toArray, List.set_cons_zero, List.set_cons_succ]
        refine wpH_take (i := 3) (some 43) (v := ?x5v) rfl (by kernel_rfl) (by kernel_rfl) (by kernel_rfl) rfl (fun _ _ _ h => h) (Or.inl ⟨by rfl, ?x5y⟩) hHeld ?x5r
        case x5y => (intro w hSw; (try dsimp only at hSw); go_simp; try with_reducible rfl)
        try simp only [Act.put, List.setIfInBounds_toArray, List.set_cons_zero, List.set_cons_succ]
        refine wpH_take (i := 4) (some 44) (v := ?x6v) rfl (by kernel_rfl) (by kernel_rfl) (by kernel_rfl) rfl (fun _ _ _ h => h) (Or.inl ⟨by rfl, ?x6y⟩) hHeld ?x6r
        case x6y => (intro w hSw; (try dsimp only at hSw); go_simp; try with_reducible rfl)
        try simp only [Act.put, List.setIfInBounds_toArray, List.set_cons_zero, List.set_cons_succ]
        refine wpH_take (i := 5) (some 45) (v := ?x7v) rfl (by kernel_rfl) (by kernel_rfl) (by kernel_rfl) rfl (fun _ _ _ h => h) (Or.inl ⟨by rfl, ?x7y⟩) hHeld ?x7r
        case x7y => (intro w hSw; (try dsimp only at hSw); go_simp; try with_reducible rfl)
        try simp only [Act.put, List.setIfInBounds_toArray, List.set_cons_zero, List.set_cons_succ]
        refine wpH_take (i := 6) (some 46) (v := ?x8v) rfl (by kernel_rfl) (by kernel_rfl) (by kernel_rfl) rfl (fun _ _ _ h => h) (Or.inl ⟨by rfl, ?x8y⟩) hHeld ?x8r
        case x8y => (intro w hSw; (try dsimp only at hSw); go_simp; try with_reducible rfl)
        try simp only [Act.put, List.setIfInBounds_toArray, List.set_cons_zero, List.set_cons_succ]
        refine wpH_take (i := 7) (some 47) (v := ?x9v) rfl (by kernel_rfl) (by kernel_rfl) (by kernel_rfl) rfl (fun _ _ _ h => h) (Or.inl ⟨by rfl, ?x9y⟩) hHeld ?x9r
        case x9y => (intro w hSw; (try dsimp only at hSw); go_simp; try with_reducible rfl)
        try simp only [Act.put, List.setIfInBounds_toArray, List.set_cons_zero, List.set_cons_succ]
        refine wpH_take (i := 8) (some 48) (v := ?x10v) rfl (by kernel_rfl) (by kernel_rfl) (by kernel_rfl) rfl (fun _ _ _ h => h) (Or.inl ⟨by rfl, ?x10y⟩) hHeld ?x10r
        case x10y => (intro w hSw; (try dsimp only at hSw); go_simp; try with_reducible rfl)
        try simp only [Act.put, List.setIfInBounds_toArray, List.set_cons_zero, List.set_cons_succ]
        refine wpH_take (i := 9) (some 49) (v := ?x11v) rfl (by kernel_rfl) (by kernel_rfl) (by kernel_rfl) rfl (fun _ _ _ h => h) (Or.inl ⟨by rfl, ?x11y⟩) hHeld ?x11r
        case x11y => (intro w hSw; (try dsimp only at hSw); go_simp; try with_reducible rfl)
        try simp only [Act.put, List.setIfInBounds_toArray, List.set_cons_zero, List.set_cons_succ]
        refine wpH_take (i := 10) (some 50) (v := ?x12v) rfl (by kernel_rfl) (by kernel_rfl) (by kernel_rfl) rfl (fun _ _ _ h => h) (Or.inl ⟨by rfl, ?x12y⟩) hHeld ?x12r
        case x12y => (intro w hSw; (try dsimp only at hSw); go_simp; try with_reducible rfl)
        try simp only [Act.put, List.setIfInBounds_toArray, List.set_cons_zero, List.set_cons_succ]
        refine wpAnyH_done (by kernel_rfl) ?_ _
        go_wp2_with fail
        go_ret
        exact ⟨ret_bool (by rw [samT, HT.out, HS.out, HV.out]; simp), BX.out.trans (BE.out.drew.mono BX.out.size)⟩
      | true =>
        have HV := Lib.hid hv
        have hq := neq_u_lit d e true hv
        clear hv
        go_wp2_with fail
        refine region_H 11 #[false, false, false, false, false, false, false, false, false, false, false] (by kernel_rfl) (by kernel_rfl) (fun w' => w'.cell? ⟨w.heap.size, 0, none⟩ = some (.slice (some ⟨b, off, none⟩) us.length cu) ∧ w'.cell? ⟨w.heap.size + 1, 0, none⟩ = some (.slice (some ⟨b', off', none⟩) us'.length cu') ∧ w'.cell? ⟨b, off + i * 4, none⟩ = some (.int .i64 d.s) ∧ w'.cell? ⟨b, off + i * 4 + 1, none⟩ = some (.int .i64 d.o) ∧ w'.cell? ⟨b, off + i * 4 + 2, none⟩ = some (.int .i64 d.p) ∧ w'.cell? ⟨b, off + i * 4 + 3, none⟩ = some (.int .i64 d.m) ∧ w'.cell? ⟨b', off' + i * 4, none⟩ = some (.int .i64 e.s) ∧ w'.cell? ⟨b', off' + i * 4 + 1, none⟩ = some (.int .i64 e.o) ∧ w'.cell? ⟨b', off' + i * 4 + 2, none⟩ = some (.int .i64 e.p) ∧ w'.cell? ⟨b', off' + i * 4 + 3, none⟩ = some (.int .i64 e.m)) (by kernel_rfl) ?x13s (fun hHeld => ?x13r)
        case x13s => exact ⟨t0, y0, d0, d1, d2, d3, e0, e1, e2, e3⟩
        refine wpH_take (i := 0) (some 40) (v := ?x14v) rfl (by kernel_rfl) (by kernel_rfl) (by kernel_rfl) rfl (fun _ _ _ h => h) (Or.inl ⟨by rfl, ?x14y⟩) hHeld ?x14r
        case x14y => (intro w hSw; (try dsimp only at hSw); go_simp; try with_reducible rfl)
        try simp only [Act.put, List.setIfInBounds_toArray, List.set_cons_zero, List.set_cons_succ]
        refine wpH_take (i := 1) (some 41) (v := ?x15v) rfl (by kernel_rfl) (by kernel_rfl) (by kernel_rfl) rfl (fun _ _ _ h => h) (Or.inl ⟨by rfl, ?x15y⟩) hHeld ?x15r
        case x15y => (intro w hSw; (try dsimp only at hSw); go_simp; try with_reducible rfl)
        try simp only [Act.put, List.setIfInBounds_toArray, List.set_cons_zero, List.set_cons_succ]
        refine wpH_take (i := 2) (some 42) (v := ?x16v) rfl (by kernel_rfl) (by kernel_rfl) (by kernel_rfl) rfl (fun _ _ _ h => h) (Or.inl ⟨by rfl, ?x16y⟩) hHeld ?x16r
        case x16y => (intro w hSw; (try dsimp only at hSw); go_simp; try with_reducible rfl)
        try simp only [Act.put, List.setIfInBounds_toArray, List.set_cons_zero, List.set_cons_succ]
        refine wpH_take (i := 3) (some 43) (v := ?x17v) rfl (by kernel_rfl) (by kernel_rfl) (by kernel_rfl) rfl (fun _ _ _ h => h) (Or.inl ⟨by rfl, ?x17y⟩) hHeld ?x17r
        case x17y => (intro w hSw; (try dsimp only at hSw); go_simp; try with_reducible rfl)
        try simp only [Act.put, List.setIfInBounds_toArray, List.set_cons_zero, List.set_cons_succ]
        refine wpH_take (i := 4) (some 44) (v := ?x18v) rfl (by kernel_rfl) (by kernel_rfl) (by kernel_rfl) rfl (fun _ _ _ h => h) (Or.inl ⟨by rfl, ?x18y⟩) hHeld ?x18r
        case x18y => (intro w hSw; (try dsimp only at hSw); go_simp; try with_reducible rfl)
        try simp only [Act.put, List.setIfInBounds_toArray, List.set_cons_zero, List.set_cons_succ]
        refine wpH_take (i := 5) (some 45) (v := ?x19v) rfl (by kernel_rfl) (by kernel_rfl) (by kernel_rfl) rfl (fun _ _ _ h => h) (Or.inl ⟨by rfl, ?x19y⟩) hHeld ?x19r
        case x19y => (intro w hSw; (try dsimp only at hSw); go_simp; try with_reducible rfl)
        try simp only [Act.put, List.setIfInBounds_toArray, List.set_cons_zero, List.set_cons_succ]
        refine wpH_take (i := 6) (some 46) (v := ?x20v) rfl (by kernel_rfl) (by kernel_rfl) (by kernel_rfl) rfl (fun _ _ _ h => h) (Or.inl ⟨by rfl, ?x20y⟩) hHeld ?x20r
        case x20y => (intro w hSw; (try dsimp only at hSw); go_simp; try with_reducible rfl)
        try simp only [Act.put, List.setIfInBounds_toArray, List.set_cons_zero, List.set_cons_succ]
        refine wpH_take (i := 7) (some 47) (v := ?x21v) rfl (by kernel_rfl) (by kernel_rfl) (by kernel_rfl) rfl (fun _ _ _ h => h) (Or.inl ⟨by rfl, ?x21y⟩) hHeld ?x21r
        case x21y => (intro w hSw; (try dsimp only at hSw); go_simp; try with_reducible rfl)
        try simp only [Act.put, List.setIfInBounds_toArray, List.set_cons_zero, List.set_cons_succ]
        refine wpH_take (i := 8) (some 48) (v := ?x22v) rfl (by kernel_rfl) (by kernel_rfl) (by kernel_rfl) rfl (fun _ _ _ h => h) (Or.inl ⟨by rfl, ?x22y⟩) hHeld ?x22r
        case x22y => (intro w hSw; (try dsimp only at hSw); go_simp; try with_reducible rfl)
        try simp only [Act.put, List.setIfInBounds_toArray, List.set_cons_zero, List.set_cons_succ]
        refine wpH_take (i := 9) (some 49) (v := ?x23v) rfl (by kernel_rfl) (by kernel_rfl) (by kernel_rfl) rfl (fun _ _ _ h => h) (Or.inl ⟨by rfl, ?x23y⟩) hHeld ?x23r
        case x23y => (intro w hSw; (try dsimp only at hSw); go_simp; try with_reducible rfl)
        try simp only [Act.put, List.setIfInBounds_toArray, List.set_cons_zero, List.set_cons_succ]
        refine wpH_take (i := 10) (some 50) (v := ?x24v) rfl (by kernel_rfl) (by kernel_rfl) (by kernel_rfl) rfl (fun _ _ _ h => h) (Or.inl ⟨by rfl, ?x24y⟩) hHeld ?x24r
        case x24y => (intro w hSw; (try dsimp only at hSw); go_simp; try with_reducible rfl)
        try simp only [Act.put, List.setIfInBounds_toArray, List.set_cons_zero, List.set_cons_succ]
        refine wpAnyH_done (by kernel_rfl) ?_ _
        go_wp2_with fail
        go_roundw
        case rel => exact ⟨i + 1, by omega, by go_num, by rw [HT.out, HS.out, HV.out]; simp, BE.out.drew⟩
        case measure => simp [intOf]; omega
    · have HEU := Lib.hid (show samF eqU us us' = true by rw [HT.out, samF_end (by omega) (by have := Hu.out; omega)])
      go_wp2_with fail
      go_loopw [6] (fun ii wr => ∃ (i : Nat), i ≤ gs.length ∧ ii = .int .i64 i ∧ samF eqG gs gs' = samF eqG (gs.drop i) (gs'.drop i) ∧ Below w1.heap.size w1 wr) (fun i _ => gs.length - (intOf i).toNat)
      case atStart => exact ⟨0, by omega, rfl, rfl, BE.out⟩
      case round =>
        clear hlt hi j0 BE HT OTr OYr t0 t1 t2 fT zT y0 y1 y2 fY zY
        obtain ⟨i, hi, rfl, hT, bel⟩ := hrel
        have HT := Lib.hid hT
        have BE := Lib.hid bel
        clear hT bel
        have j0 : (0 : Int) ≤ (i : Int) := Int.natCast_nonneg _
        have OTr := Lib.hid (OT.out.below BE.out)
        have OYr := Lib.hid (OY.out.below BE.out)
        obtain ⟨t0, t1, t2, fT, zT⟩ := own3 OTr.out
        obtain ⟨y0, y1, y2, fY, zY⟩ := own3 OYr.out
        by_cases hlt : i < gs.length
        · obtain ⟨d, b, off, hd, rfl, hbl, _, d0, d1, d2, d3, d4⟩ := SG.out.atG BE.out hlt
          obtain ⟨e, b', off', he, rfl, hbl', _, e0, e1, e2, e3, e4⟩ := SG'.out.atG BE.out (show i < gs'.length by have := Hg.out; omega)
          have j1 : (i : Int) < (gs.length : Int) := by omega
          have j2 : (i : Int) < (gs'.length : Int) := by have := Hg.out; omega
          have HS := Lib.hid (samF_step (e := eqG) hd he)
          clear hd he
          cases hv : eqG d e with
          | false =>
            have HV := Lib.hid hv
            have hq := neq_g_lit d e false hv
            clear hv
            go_wp2_with fail
            refine region_H 11 #[false, false, false, false, false, false, false, false, false, false, false] (by kernel_rfl) (by kernel_rfl) (fun w' => w'.cell? ⟨w.heap.size, 1, none⟩ = some (.slice (some ⟨b, off, none⟩) gs.length cg) ∧ w'.cell? ⟨w.heap.size + 1, 1, none⟩ = some (.slice (some ⟨b', off', none⟩) gs'.length cg') ∧ w'.cell? ⟨b, off + i * 5, none⟩ = some (.int .i64 d.s) ∧ w'.cell? ⟨b, off + i * 5 + 1, none⟩ = some (.int .i64 d.o) ∧ w'.cell? ⟨b, off + i * 5 + 2, none⟩ = some (.int .i64 d.p) ∧ w'.cell? ⟨b, off + i * 5 + 3, none⟩ = some (.int .i64 d.m) ∧ w'.cell? ⟨b, off + i * 5 + 4, none⟩ = some (.int .i64 d.u) ∧ w'.cell? ⟨b', off' + i * 5, none⟩ = some (.int .i64 e.s) ∧ w'.cell? ⟨b', off' + i * 5 + 1, none⟩ = some (.int .i64 e.o) ∧ w'.cell? ⟨b', off' + i * 5 + 2, none⟩ = some (.int .i64 e.p) ∧ w'.cell? ⟨b', off' + i * 5 + 3, none⟩ = some (.int .i64 e.m) ∧ w'.cell? ⟨b', off' + i * 5 + 4, none⟩ = some (.int .i64 e.u)) (by kernel_rfl) ?x25s (fun hHeld => ?x25r)
            case x25s => exact ⟨t1, y1, d0, d1, d2, d3, d4, e0, e1, e2, e3, e4⟩
            refine wpH_take (i := 0) (some 58) (v := ?x26v) rfl (by kernel_rfl) (by kernel_rfl) (by kernel_rfl) rfl (fun _ _ _ h => h) (Or.inl ⟨by rfl, ?x26y⟩) hHeld ?x26r
            case x26y => (intro w hSw; (try dsimp only at hSw); go_simp; try with_reducible rfl)
            try simp only [Act.put, List.setIfInBounds_toArray, List.set_cons_zero, List.set_cons_succ]
            refine wpH_take (i := 1) (some 59) (v := ?x27v) rfl (by kernel_rfl) (by kernel_rfl) (by kernel_rfl) rfl (fun _ _ _ h => h) (Or.inl ⟨by rfl, ?x27y⟩) hHeld ?x27r
            case x27y => (intro w hSw; (try dsimp only at hSw); go_simp; try with_reducible rfl)
            try simp only [Act.put, List.setIfInBounds_toArray, List.set_cons_zero, List.set_cons_succ]
            refine wpH_take (i := 2) (some 60) (v := ?x28v) rfl (by kernel_rfl) (by kernel_rfl) (by kernel_rfl) rfl (fun _ _ _ h => h) (Or.inl ⟨by rfl, ?x28y⟩) hHeld ?x28r
            case x28y => (intro w hSw; (try dsimp only at hSw); go_simp; try with_reducible rfl)
            try simp only [Act.put, List.setIfInBounds_toArray, List.set_cons_zero, List.set_cons_succ]
            refine wpH_take (i := 3) (some 61) (v := ?x29v) rfl (by kernel_rfl) (by kernel_rfl) (by kernel_rfl) rfl (fun _ _ _ h => h) (Or.inl ⟨by rfl, ?x29y⟩) hHeld ?x29r
            case x29y => (intro w hSw; (try dsimp only at hSw); go_simp; try with_reducible rfl)
            try simp only [Act.put, List.setIfInBounds_toArray, List.set_cons_zero, List.set_cons_succ]
            refine wpH_take (i := 4) (some 62) (v := ?x30v) rfl (by kernel_rfl) (by kernel_rfl) (by kernel_rfl) rfl (fun _ _ _ h => h) (Or.inl ⟨by rfl, ?x30y⟩) hHeld ?x30r
            case x30y => (intro w hSw; (try dsimp only at hSw); go_simp; try with_reducible rfl)
            try simp only [Act.put, List.setIfInBounds_toArray, List.set_cons_zero, List.set_cons_succ]
            refine wpH_take (i := 5) (some 63) (v := ?x31v) rfl (by kernel_rfl) (by kernel_rfl) (by kernel_rfl) rfl (fun _ _ _ h => h) (Or.inl ⟨by rfl, ?x31y⟩) hHeld ?x31r
            case x31y => (intro w hSw; (try dsimp only at hSw); go_simp; try with_reducible rfl)
            try simp only [Act.put, List.setIfInBounds_toArray, List.set_cons_zero, List.set_cons_succ]
            refine wpH_take (i := 6) (some 64) (v := ?x32v) rfl (by kernel_rfl) (by kernel_rfl) (by kernel_rfl) rfl (fun _ _ _ h => h) (Or.inl ⟨by rfl, ?x32y⟩) hHeld ?x32r
            case x32y => (intro w hSw; (try dsimp only at hSw); go_simp; try with_reducible rfl)
            try simp only [Act.put, List.setIfInBounds_toArray, List.set_cons_zero, List.set_cons_succ]
            refine wpH_take (i := 7) (some 65) (v := ?x33v) rfl (by kernel_rfl) (by kernel_rfl) (by kernel_rfl) rfl (fun _ _ _ h => h) (Or.inl ⟨by rfl, ?x33y⟩) hHeld ?x33r
            case x33y => (intro w hSw; (try dsimp only at hSw); go_simp; try with_reducible rfl)
            try simp only [Act.put, List.setIfInBounds_toArray, List.set_cons_zero, List.set_cons_succ]
            refine wpH_take (i := 8) (some 66) (v := ?x34v) rfl (by kernel_rfl) (by kernel_rfl) (by kernel_rfl) rfl (fun _ _ _ h => h) (Or.inl ⟨by rfl, ?x34y⟩) hHeld ?x34r
            case x34y => (intro w hSw; (try dsimp only at hSw); go_simp; try with_reducible rfl)
            try simp only [Act.put, List.setIfInBounds_toArray, List.set_cons_zero, List.set_cons_succ]
            refine wpH_take (i := 9) (some 67) (v := ?x35v) rfl (by kernel_rfl) (by kernel_rfl) (by kernel_rfl) rfl (fun _ _ _ h => h) (Or.inl ⟨by rfl, ?x35y⟩) hHeld ?x35r
            case x35y => (intro w hSw; (try dsimp only at hSw); go_simp; try with_reducible rfl)
            try simp only [Act.put, List.setIfInBounds_toArray, List.set_cons_zero, List.set_cons_succ]
            refine wpH_take (i := 10) (some 68) (v := ?x36v) rfl (by kernel_rfl) (by kernel_rfl) (by kernel_rfl) rfl (fun _ _ _ h => h) (Or.inl ⟨by rfl, ?x36y⟩) hHeld ?x36r
            case x36y => (intro w hSw; (try dsimp only at hSw); go_simp; try with_reducible rfl)
            try simp only [Act.put, List.setIfInBounds_toArray, List.set_cons_zero, List.set_cons_succ]
            refine wpAnyH_done (by kernel_rfl) ?_ _
            go_wp2_with fail
            go_ret
            exact ⟨ret_bool (by rw [samT, HEU.out, HT.out, HS.out, HV.out]; simp), BX.out.trans (BE.out.drew.mono BX.out.size)⟩
          | true =>
            have HV := Lib.hid hv
            have hq := neq_g_lit d e true hv
            clear hv
            go_wp2_with fail
            refine region_H 11 #[false, false, false, false, false, false, false, false, false, false, false] (by kernel_rfl) (by kernel_rfl) (fun w' => w'.cell? ⟨w.heap.size, 1, none⟩ = some (.slice (some ⟨b, off, none⟩) gs.length cg) ∧ w'.cell? ⟨w.heap.size + 1, 1, none⟩ = some (.slice (some ⟨b', off', none⟩) gs'.length cg') ∧ w'.cell? ⟨b, off + i * 5, none⟩ = some (.int .i64 d.s) ∧ w'.cell? ⟨b, off + i * 5 + 1, none⟩ = some (.int .i64 d.o) ∧ w'.cell? ⟨b, off + i * 5 + 2, none⟩ = some (.int .i64 d.p) ∧ w'.cell? ⟨b, off + i * 5 + 3, none⟩ = some (.int .i64 d.m) ∧ w'.cell? ⟨b, off + i * 5 + 4, none⟩ = some (.int .i64 d.u) ∧ w'.cell? ⟨b', off' + i * 5, none⟩ = some (.int .i64 e.s) ∧ w'.cell? ⟨b', off' + i * 5 + 1, none⟩ = some (.int .i64 e.o) ∧ w'.cell? ⟨b', off' + i * 5 + 2, none⟩ = some (.int .i64 e.p) ∧ w'.cell? ⟨b', off' + i * 5 + 3, none⟩ = some (.int .i64 e.m) ∧ w'.cell? ⟨b', off' + i * 5 + 4, none⟩ = some (.int .i64 e.u)) (by kernel_rfl) ?x37s (fun hHeld => ?x37r)
            case x37s => exact ⟨t1, y1, d0, d1, d2, d3, d4, e0, e1, e2, e3, e4⟩
            refine wpH_take (i := 0) (some 58) (v := ?x38v) rfl (by kernel_rfl) (by kernel_rfl) (by kernel_rfl) rfl (fun _ _ _ h => h) (Or.inl ⟨by rfl, ?x38y⟩) hHeld ?x38r
            case x38y => (intro w hSw; (try dsimp only at hSw); go_simp; try with_reducible rfl)
            try simp only [Act.put, List.setIfInBounds_toArray, List.set_cons_zero, List.set_cons_succ]
            refine wpH_take (i := 1) (some 59) (v := ?x39v) rfl (by kernel_rfl) (by kernel_rfl) (by kernel_rfl) rfl (fun _ _ _ h => h) (Or.inl ⟨by rfl, ?x39y⟩) hHeld ?x39r
            case x39y => (intro w hSw; (try dsimp only at hSw); go_simp; try with_reducible rfl)
            try simp only [Act.put, List.setIfInBounds_toArray, List.set_cons_zero, List.set_cons_succ]
            refine wpH_take (i := 2) (some 60) (v := ?x40v) rfl (by kernel_rfl) (by kernel_rfl) (by kernel_rfl) rfl (fun _ _ _ h => h) (Or.inl ⟨by rfl, ?x40y⟩) hHeld ?x40r
            case x40y => (intro w hSw; (try dsimp only at hSw); go_simp; try with_reducible rfl)
            try simp only [Act.put, List.setIfInBounds_toArray, List.set_cons_zero, List.set_cons_succ]
            refine wpH_take (i := 3) (some 61) (v := ?x41v) rfl (by kernel_rfl) (by kernel_rfl) (by kernel_rfl) rfl (fun _ _ _ h => h) (Or.inl ⟨by rfl, ?x41y⟩) hHeld ?x41r
            case x41y => (intro w hSw; (try dsimp only at hSw); go_simp; try with_reducible rfl)
            try simp only [Act.put, List.setIfInBounds_toArray, List.set_cons_zero, List.set_cons_succ]
            refine wpH_take (i := 4) (some 62) (v := ?x42v) rfl (by kernel_rfl) (by kernel_rfl) (by kernel_rfl) rfl (fun _ _ _ h => h) (Or.inl ⟨by rfl, ?x42y⟩) hHeld ?x42r
            case x42y => (intro w hSw; (try dsimp only at hSw); go_simp; try with_reducible rfl)
            try simp only [Act.put, List.setIfInBounds_toArray, List.set_cons_zero, List.set_cons_succ]
            refine wpH_take (i := 5) (some 63) (v := ?x43v) rfl (by kernel_rfl) (by kernel_rfl) (by kernel_rfl) rfl (fun _ _ _ h => h) (Or.inl ⟨by rfl, ?x43y⟩) hHeld ?x43r
            case x43y => (intro w hSw; (try dsimp only at hSw); go_simp; try with_reducible rfl)
            try simp only [Act.put, List.setIfInBounds_toArray, List.set_cons_zero, List.set_cons_succ]
            refine wpH_take (i := 6) (some 64) (v := ?x44v) rfl (by kernel_rfl) (by kernel_rfl) (by kernel_rfl) rfl (fun _ _ _ h => h) (Or.inl ⟨by rfl, ?x44y⟩) hHeld ?x44r
            case x44y => (intro w hSw; (try dsimp only at hSw); go_simp; try with_reducible rfl)
            try simp only [Act.put, List.setIfInBounds_toArray, List.set_cons_zero, List.set_cons_succ]
            refine wpH_take (i := 7) (some 65) (v := ?x45v) rfl (by kernel_rfl) (by kernel_rfl) (by kernel_rfl) rfl (fun _ _ _ h => h) (Or.inl ⟨by rfl, ?x45y⟩) hHeld ?x45r
            case x45y => (intro w hSw; (try dsimp only at hSw); go_simp; try with_reducible rfl)
            try simp only [Act.put, List.setIfInBounds_toArray, List.set_cons_zero, List.set_cons_succ]
            refine wpH_take (i := 8) (some 66) (v := ?x46v) rfl (by kernel_rfl) (by kernel_rfl) (by kernel_rfl) rfl (fun _ _ _ h => h) (Or.inl ⟨by rfl, ?x46y⟩) hHeld ?x46r
            case x46y => (intro w hSw; (try dsimp only at hSw); go_simp; try with_reducible rfl)
            try simp only [Act.put, List.setIfInBounds_toArray, List.set_cons_zero, List.set_cons_succ]
            refine wpH_take (i := 9) (some 67) (v := ?x47v) rfl (by kernel_rfl) (by kernel_rfl) (by kernel_rfl) rfl (fun _ _ _ h => h) (Or.inl ⟨by rfl, ?x47y⟩) hHeld ?x47r
            case x47y => (intro w hSw; (try dsimp only at hSw); go_simp; try with_reducible rfl)
            try simp only [Act.put, List.setIfInBounds_toArray, List.set_cons_zero, List.set_cons_succ]
            refine wpH_take (i := 10) (some 68) (v := ?x48v) rfl (by kernel_rfl) (by kernel_rfl) (by kernel_rfl) rfl (fun _ _ _ h => h) (Or.inl ⟨by rfl, ?x48y⟩) hHeld ?x48r
            case x48y => (intro w hSw; (try dsimp only at hSw); go_simp; try with_reducible rfl)
            try simp only [Act.put, List.setIfInBounds_toArray, List.set_cons_zero, List.set_cons_succ]
            refine wpAnyH_done (by kernel_rfl) ?_ _
            go_wp2_with fail
            go_roundw
            case rel => exact ⟨i + 1, by omega, by go_num, by rw [HT.out, HS.out, HV.out]; simp, BE.out.drew⟩
            case measure => simp [intOf]; omega
        · have HEG := Lib.hid (show samF eqG gs gs' = true by rw [HT.out, samF_end (by omega) (by have := Hg.out; omega)])
          go_wp2_with fail
          go_loopw [7] (fun ii wr => ∃ (i : Nat), i ≤ ks.length ∧ ii = .int .i64 i ∧ samF eqA ks ks' = samF eqA (ks.drop i) (ks'.drop i) ∧ Below w1.heap.size w1 wr) (fun i _ => ks.length - (intOf i).toNat)
          case atStart => exact ⟨0, by omega, rfl, rfl, BE.out⟩
          case round =>
            clear hlt hi j0 BE HT OTr OYr t0 t1 t2 fT zT y0 y1 y2 fY zY
            obtain ⟨i, hi, rfl, hT, bel⟩ := hrel
            have HT := Lib.hid hT
            have BE := Lib.hid bel
            clear hT bel
            have j0 : (0 : Int) ≤ (i : Int) := Int.natCast_nonneg _
            have OTr := Lib.hid (OT.out.below BE.out)
            have OYr := Lib.hid (OY.out.below BE.out)
            obtain ⟨t0, t1, t2, fT, zT⟩ := own3 OTr.out
            obtain ⟨y0, y1, y2, fY, zY⟩ := own3 OYr.out
            by_cases hlt : i < ks.length
            · obtain ⟨d, b, off, hd, rfl, hbl, _, d0, d1, d2⟩ := SA.out.atA BE.out hlt
              obtain ⟨e, b', off', he, rfl, hbl', _, e0, e1, e2⟩ := SA'.out.atA BE.out (show i < ks'.length by have := Ha.out; omega)
              have j1 : (i : Int) < (ks.length : Int) := by omega
              have j2 : (i : Int) < (ks'.length : Int) := by have := Ha.out; omega
              have HS := Lib.hid (samF_step (e := eqA) hd he)
              clear hd he
              cases hv : eqA d e with
              | false =>
                have HV := Lib.hid hv
                have hq := neq_a_lit d e false hv
                clear hv
                go_wp2_with fail
                refine region_H 11 #[false, false, false, false, false, false, false, false, false, false, false] (by kernel_rfl) (by kernel_rfl) (fun w' => w'.cell? ⟨w.heap.size, 2, none⟩ = some (.slice (some ⟨b, off, none⟩) ks.length ca) ∧ w'.cell? ⟨w.heap.size + 1, 2, none⟩ = some (.slice (some ⟨b', off', none⟩) ks'.length ca') ∧ w'.cell? ⟨b, off + i * 3, none⟩ = some (.int .i64 d.s) ∧ w'.cell? ⟨b, off + i * 3 + 1, none⟩ = some (.int .i64 d.o) ∧ w'.cell? ⟨b, off + i * 3 + 2, none⟩ = some (.int .i64 d.p) ∧ w'.cell? ⟨b', off' + i * 3, none⟩ = some (.int .i64 e.s) ∧ w'.cell? ⟨b', off' + i * 3 + 1, none⟩ = some (.int .i64 e.o) ∧ w'.cell? ⟨b', off' + i * 3 + 2, none⟩ = some (.int .i64 e.p)) (by kernel_rfl) ?x49s (fun hHeld => ?x49r)
                case x49s => exact ⟨t2, y2, d0, d1, d2, e0, e1, e2⟩
                refine wpH_take (i := 0) (some 76) (v := ?x50v) rfl (by kernel_rfl) (by kernel_rfl) (by kernel_rfl) rfl (fun _ _ _ h => h) (Or.inl ⟨by rfl, ?x50y⟩) hHeld ?x50r
                case x50y => (intro w hSw; (try dsimp only at hSw); go_simp; try with_reducible rfl)
                try simp only [Act.put, List.setIfInBounds_toArray, List.set_cons_zero, List.set_cons_succ]
                refine wpH_take (i := 1) (some 77) (v := ?x51v) rfl (by kernel_rfl) (by kernel_rfl) (by kernel_rfl) rfl (fun _ _ _ h => h) (Or.inl ⟨by rfl, ?x51y⟩) hHeld ?x51r
                case x51y => (intro w hSw; (try dsimp only at hSw); go_simp; try with_reducible rfl)
                try simp only [Act.put, List.setIfInBounds_toArray, List.set_cons_zero, List.set_cons_succ]
                refine wpH_take (i := 2) (some 78) (v := ?x52v) rfl (by kernel_rfl) (by kernel_rfl) (by kernel_rfl) rfl (fun _ _ _ h => h) (Or.inl ⟨by rfl, ?x52y⟩) hHeld ?x52r
                case x52y => (intro w hSw; (try dsimp only at hSw); go_simp; try with_reducible rfl)
                try simp only [Act.put, List.setIfInBounds_toArray, List.set_cons_zero, List.set_cons_succ]
                refine wpH_take (i := 3) (some 79) (v := ?x53v) rfl (by kernel_rfl) (by kernel_rfl) (by kernel_rfl) rfl (fun _ _ _ h => h) (Or.inl ⟨by rfl, ?x53y⟩) hHeld ?x53r
                case x53y => (intro w hSw; (try dsimp only at hSw); go_simp; try with_reducible rfl)
                try simp only [Act.put, List.setIfInBounds_toArray, List.set_cons_zero, List.set_cons_succ]
                refine wpH_take (i := 4) (some 80) (v := ?x54v) rfl (by kernel_rfl) (by kernel_rfl) (by kernel_rfl) rfl (fun _ _ _ h => h) (Or.inl ⟨by rfl, ?x54y⟩) hHeld ?x54r
                case x54y => (intro w hSw; (try dsimp only at hSw); go_simp; try with_reducible rfl)
                try simp only [Act.put, List.setIfInBounds_toArray, List.set_cons_zero, List.set_cons_succ]
                refine wpH_take (i := 5) (some 81) (v := ?x55v) rfl (by kernel_rfl) (by kernel_rfl) (by kernel_rfl) rfl (fun _ _ _ h => h) (Or.inl ⟨by rfl, ?x55y⟩) hHeld ?x55r
                case x55y => (intro w hSw; (try dsimp only at hSw); go_simp; try with_reducible rfl)
                try simp only [Act.put, List.setIfInBounds_toArray, List.set_cons_zero, List.set_cons_succ]
                refine wpH_take (i := 6) (some 82) (v := ?x56v) rfl (by kernel_rfl) (by kernel_rfl) (by kernel_rfl) rfl (fun _ _ _ h => h) (Or.inl ⟨by rfl, ?x56y⟩) hHeld ?x56r
                case x56y => (intro w hSw; (try dsimp only at hSw); go_simp; try with_reducible rfl)
                try simp only [Act.put, List.setIfInBounds_toArray, List.set_cons_zero, List.set_cons_succ]
                refine wpH_take (i := 7) (some 83) (v := ?x57v) rfl (by kernel_rfl) (by kernel_rfl) (by kernel_rfl) rfl (fun _ _ _ h => h) (Or.inl ⟨by rfl, ?x57y⟩) hHeld ?x57r
                case x57y => (intro w hSw; (try dsimp only at hSw); go_simp; try with_reducible rfl)
                try simp only [Act.put, List.setIfInBounds_toArray, List.set_cons_zero, List.set_cons_succ]
                refine wpH_take (i := 8) (some 84) (v := ?x58v) rfl (by kernel_rfl) (by kernel_rfl) (by kernel_rfl) rfl (fun _ _ _ h => h) (Or.inl ⟨by rfl, ?x58y⟩) hHeld ?x58r
                case x58y => (intro w hSw; (try dsimp only at hSw); go_simp; try with_reducible rfl)
                try simp only [Act.put, List.setIfInBounds_toArray, List.set_cons_zero, List.set_cons_succ]
                refine wpH_take (i := 9) (some 85) (v := ?x59v) rfl (by kernel_rfl) (by kernel_rfl) (by kernel_rfl) rfl (fun _ _ _ h => h) (Or.inl ⟨by rfl, ?x59y⟩) hHeld ?x59r
                case x59y => (intro w hSw; (try dsimp only at hSw); go_simp; try with_reducible rfl)
                try simp only [Act.put, List.setIfInBounds_toArray, List.set_cons_zero, List.set_cons_succ]
                refine wpH_take (i := 10) (some 86) (v := ?x60v) rfl (by kernel_rfl) (by kernel_rfl) (by kernel_rfl) rfl (fun _ _ _ h => h) (Or.inl ⟨by rfl, ?x60y⟩) hHeld ?x60r
                case x60y => (intro w hSw; (try dsimp only at hSw); go_simp; try with_reducible rfl)
                try simp only [Act.put, List.setIfInBounds_toArray, List.set_cons_zero, List.set_cons_succ]
                refine wpAnyH_done (by kernel_rfl) ?_ _
                go_wp2_with fail
                go_ret
                exact ⟨ret_bool (by rw [samT, HEU.out, HEG.out, HT.out, HS.out, HV.out]; simp), BX.out.trans (BE.out.drew.mono BX.out.size)⟩
              | true =>
                have HV := Lib.hid hv
                have hq := neq_a_lit d e true hv
                clear hv
                go_wp2_with fail
                refine region_H 11 #[false, false, false, false, false, false, false, false, false, false, false] (by kernel_rfl) (by kernel_rfl) (fun w' => w'.cell? ⟨w.heap.size, 2, none⟩ = some (.slice (some ⟨b, off, none⟩) ks.length ca) ∧ w'.cell? ⟨w.heap.size + 1, 2, none⟩ = some (.slice (some ⟨b', off', none⟩) ks'.length ca') ∧ w'.cell? ⟨b, off + i * 3, none⟩ = some (.int .i64 d.s) ∧ w'.cell? ⟨b, off + i * 3 + 1, none⟩ = some (.int .i64 d.o) ∧ w'.cell? ⟨b, off + i * 3 + 2, none⟩ = some (.int .i64 d.p) ∧ w'.cell? ⟨b', off' + i * 3, none⟩ = some (.int .i64 e.s) ∧ w'.cell? ⟨b', off' + i * 3 + 1, none⟩ = some (.int .i64 e.o) ∧ w'.cell? ⟨b', off' + i * 3 + 2, none⟩ = some (.int .i64 e.p)) (by kernel_rfl) ?x61s (fun hHeld => ?x61r)
                case x61s => exact ⟨t2, y2, d0, d1, d2, e0, e1, e2⟩
                refine wpH_take (i := 0) (some 76) (v := ?x62v) rfl (by kernel_rfl) (by kernel_rfl) (by kernel_rfl) rfl (fun _ _ _ h => h) (Or.inl ⟨by rfl, ?x62y⟩) hHeld ?x62r
                case x62y => (intro w hSw; (try dsimp only at hSw); go_simp; try with_reducible rfl)
                try simp only [Act.put, List.setIfInBounds_toArray, List.set_cons_zero, List.set_cons_succ]
                refine wpH_take (i := 1) (some 77) (v := ?x63v) rfl (by kernel_rfl) (by kernel_rfl) (by kernel_rfl) rfl (fun _ _ _ h => h) (Or.inl ⟨by rfl, ?x63y⟩) hHeld ?x63r
                case x63y => (intro w hSw; (try dsimp only at hSw); go_simp; try with_reducible rfl)
                try simp only [Act.put, List.setIfInBounds_toArray, List.set_cons_zero, List.set_cons_succ]
                refine wpH_take (i := 2) (some 78) (v := ?x64v) rfl (by kernel_rfl) (by kernel_rfl) (by kernel_rfl) rfl (fun _ _ _ h => h) (Or.inl ⟨by rfl, ?x64y⟩) hHeld ?x64r
                case x64y => (intro w hSw; (try dsimp only at hSw); go_simp; try with_reducible rfl)
                try simp only [Act.put, List.setIfInBounds_toArray, List.set_cons_zero, List.set_cons_succ]
                refine wpH_take (i := 3) (some 79) (v := ?x65v) rfl (by kernel_rfl) (by kernel_rfl) (by kernel_rfl) rfl (fun _ _ _ h => h) (Or.inl ⟨by rfl, ?x65y⟩) hHeld ?x65r
                case x65y => (intro w hSw; (try dsimp only at hSw); go_simp; try with_reducible rfl)
                try simp only [Act.put, List.setIfInBounds_toArray, List.set_cons_zero, List.set_cons_succ]
                refine wpH_take (i := 4) (some 80) (v := ?x66v) rfl (by kernel_rfl) (by kernel_rfl) (by kernel_rfl) rfl (fun _ _ _ h => h) (Or.inl ⟨by rfl, ?x66y⟩) hHeld ?x66r
                case x66y => (intro w hSw; (try dsimp only at hSw); go_simp; try with_reducible rfl)
                try simp only [Act.put, List.setIfInBounds_toArray, List.set_cons_zero, List.set_cons_succ]
                refine wpH_take (i := 5) (some 81) (v := ?x67v) rfl (by kernel_rfl) (by kernel_rfl) (by kernel_rfl) rfl (fun _ _ _ h => h) (Or.inl ⟨by rfl, ?x67y⟩) hHeld ?x67r
                case x67y => (intro w hSw; (try dsimp only at hSw); go_simp; try with_reducible rfl)
                try simp only [Act.put, List.setIfInBounds_toArray, List.set_cons_zero, List.set_cons_succ]
                refine wpH_take (i := 6) (some 82) (v := ?x68v) rfl (by kernel_rfl) (by kernel_rfl) (by kernel_rfl) rfl (fun _ _ _ h => h) (Or.inl ⟨by rfl, ?x68y⟩) hHeld ?x68r
                case x68y => (intro w hSw; (try dsimp only at hSw); go_simp; try with_reducible rfl)
                try simp only [Act.put, List.setIfInBounds_toArray, List.set_cons_zero, List.set_cons_succ]
                refine wpH_take (i := 7) (some 83) (v := ?x69v) rfl (by kernel_rfl) (by kernel_rfl) (by kernel_rfl) rfl (fun _ _ _ h => h) (Or.inl ⟨by rfl, ?x69y⟩) hHeld ?x69r
                case x69y => (intro w hSw; (try dsimp only at hSw); go_simp; try with_reducible rfl)
                try simp only [Act.put, List.setIfInBounds_toArray, List.set_cons_zero, List.set_cons_succ]
                refine wpH_take (i := 8) (some 84) (v := ?x70v) rfl (by kernel_rfl) (by kernel_rfl) (by kernel_rfl) rfl (fun _ _ _ h => h) (Or.inl ⟨by rfl, ?x70y⟩) hHeld ?x70r
                case x70y => (intro w hSw; (try dsimp only at hSw); go_simp; try with_reducible rfl)
                try simp only [Act.put, List.setIfInBounds_toArray, List.set_cons_zero, List.set_cons_succ]
                refine wpH_take (i := 9) (some 85) (v := ?x71v) rfl (by kernel_rfl) (by kernel_rfl) (by kernel_rfl) rfl (fun _ _ _ h => h) (Or.inl ⟨by rfl, ?x71y⟩) hHeld ?x71r
                case x71y => (intro w hSw; (try dsimp only at hSw); go_simp; try with_reducible rfl)
                try simp only [Act.put, List.setIfInBounds_toArray, List.set_cons_zero, List.set_cons_succ]
                refine wpH_take (i := 10) (some 86) (v := ?x72v) rfl (by kernel_rfl) (by kernel_rfl) (by kernel_rfl) rfl (fun _ _ _ h => h) (Or.inl ⟨by rfl, ?x72y⟩) hHeld ?x72r
                case x72y => (intro w hSw; (try dsimp only at hSw); go_simp; try with_reducible rfl)
                try simp only [Act.put, List.setIfInBounds_toArray, List.set_cons_zero, List.set_cons_succ]
                refine wpAnyH_done (by kernel_rfl) ?_ _
                go_wp2_with fail
                go_roundw
                case rel => exact ⟨i + 1, by omega, by go_num, by rw [HT.out, HS.out, HV.out]; simp, BE.out.drew⟩
                case measure => simp [intOf]; omega
            · have HEA := Lib.hid (show samF eqA ks ks' = true by rw [HT.out, samF_end (by omega) (by have := Ha.out; omega)])
              go_wp2_with fail
              go_ret
              exact ⟨ret_bool (by rw [samT, HEU.out, HEG.out, HEA.out]; rfl), BX.out.trans (BE.out.mono BX.out.size)⟩

theorem same_any (vu vg va vu' vg' va' : Value) (us us' : List Us) (gs gs' : List Gr) (ks ks' : List Ak) (w : World) (su : SlU w vu us) (sg : SlG w vg gs) (sa : SlA w va ks) (su' : SlU w vu' us') (sg' : SlG w vg' gs') (sa' : SlA w va' ks') (u70 : us.length ≤ 100) (g70 : gs.length ≤ 100) (k70 : ks.length ≤ 100) : Calls Try.prog 16 #[.agg #[vu, vg, va], .agg #[vu', vg', va']] w fun e w' => e = .returned (.bool (samT us gs ks us' gs' ks')) ∧ Below w.heap.size w w' := by
  by_cases hu : us.length = us'.length
  · by_cases hg : gs.length = gs'.length
    · by_cases ha : ks.length = ks'.length
      · exact same_ok vu vg va vu' vg' va' us us' gs gs' ks ks' w su sg sa su' sg' sa' u70 g70 k70 hu hg ha
      · rw [samT, samF_len (l := ks) ha]; simp only [Bool.and_false]; exact same_t2 vu vg va vu' vg' va' us us' gs gs' ks ks' w su sg sa su' sg' sa' u70 g70 k70 hu hg ha
    · rw [samT, samF_len (l := gs) hg]; simp only [Bool.false_and, Bool.and_false]; exact same_t1 vu vg va vu' vg' va' us us' gs gs' ks ks' w su sg sa su' sg' sa' u70 g70 k70 hu hg
  · rw [samT, samF_len (l := us) hu]; simp only [Bool.false_and]; exact same_t0 vu vg va vu' vg' va' us us' gs gs' ks ks' w su sg sa su' sg' sa' u70 g70 k70 hu
theorem same_lit (vu vg va vu' vg' va' : Value) (us us' : List Us) (gs gs' : List Gr) (ks ks' : List Ak) (w : World) (su : SlU w vu us) (sg : SlG w vg gs) (sa : SlA w va ks) (su' : SlU w vu' us') (sg' : SlG w vg' gs') (sa' : SlA w va' ks') (u70 : us.length ≤ 100) (g70 : gs.length ≤ 100) (k70 : ks.length ≤ 100) (x : Bool) (h : samT us gs ks us' gs' ks' = x) : Calls Try.prog 16 #[.agg #[vu, vg, va], .agg #[vu', vg', va']] w fun e w' => e = .returned (.bool x) ∧ Below w.heap.size w w' := by
  rw [← h]; exact same_any vu vg va vu' vg' va' us us' gs gs' ks ks' w su sg sa su' sg' sa' u70 g70 k70
def fewB (us : List Us) (gs : List Gr) (ks : List Ak) : Bool := decide (us.length ≤ 70) && (decide (gs.length ≤ 70) && decide (ks.length ≤ 70))
theorem fewB_int {us : List Us} {gs : List Gr} {ks : List Ak} : fewB us gs ks = (decide ((us.length : Int) ≤ 70) && (decide ((gs.length : Int) ≤ 70) && decide ((ks.length : Int) ≤ 70))) := by
  have h : ∀ n : Nat, decide (n ≤ 70) = decide ((n : Int) ≤ 70) := fun n => decide_eq_decide.2 (by omega)
  rw [fewB, h, h, h]
theorem fewB_iff {us : List Us} {gs : List Gr} {ks : List Ak} : fewB us gs ks = true ↔ us.length ≤ 70 ∧ gs.length ≤ 70 ∧ ks.length ≤ 70 := by simp [fewB]
set_option linter.unusedSimpArgs false in
set_option linter.unusedVariables false in
set_option maxRecDepth 100000 in
set_option maxHeartbeats 2000000 in
theorem few_any (vu vg va : Value) (us : List Us) (gs : List Gr) (ks : List Ak) (w : World) (su : SlU w vu us) (sg : SlG w vg gs) (sa : SlA w va ks) : Calls Try.prog 11 #[.agg #[vu, vg, va]] w fun e w' => e = .returned (.bool (fewB us gs ks)) ∧ Below w.heap.size w w' := by
  obtain ⟨pu, cu, e0, hlu, hcu, _⟩ := su.form us.length rfl
  subst e0
  obtain ⟨pg, cg, e0, hlg, hcg, _⟩ := sg.form gs.length rfl
  subst e0
  obtain ⟨pa, ca, e0, hla, hca, _⟩ := sa.form ks.length rfl
  subst e0
  rw [fewB_int]
  clear su sg sa
  go_enter Try.func11, Try.ntmps11
  go_wp2
  all_goals (go_ret; exact ⟨ret_bool (by first | (simp [*]; done) | (simp [*]; omega)), belowNew _ _⟩)
theorem few_lit (vu vg va : Value) (us : List Us) (gs : List Gr) (ks : List Ak) (w : World) (su : SlU w vu us) (sg : SlG w vg gs) (sa : SlA w va ks) (x : Bool) (h : fewB us gs ks = x) : Calls Try.prog 11 #[.agg #[vu, vg, va]] w fun e w' => e = .returned (.bool x) ∧ Below w.heap.size w w' := by
  rw [← h]; exact few_any vu vg va us gs ks w su sg sa

end Go.Proofs.Ytdmadnoijhmbcaa
