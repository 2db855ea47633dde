/- insert: an entry at its place. -/
import Derived.Test.YtdmadnoijhmbcaaCat12
import Derived.Test.YtdmadnoijhmbcaaWth12
import Derived.Test.YtdmadnoijhmbcaaPlain12b
namespace Go.Proofs.Ytdmadnoijhmbcaa
open Go.RowKit

theorem slt_plain {α : Type} {L : Lay α} {w : World} {b off n cap : Nat} {fo : Option Nat} {l : List α} (h : SlT L w (.slice (some ⟨b, off, fo⟩) n cap) l) (hl : 0 < l.length) : fo = none := by
  obtain ⟨_, _, _, _, h2, _⟩ := h.at (Below.refl _ _) hl
  injection h2 with h2
  injection h2
theorem slt_n0 {α : Type} {L : Lay α} {w : World} {p : Option Addr} {n c : Nat} {l : List α} (h : SlT L w (.slice p n c) l) (hn : n = 0) : SlT L w (.slice p 0 c) l := by subst hn; exact h
theorem slt_new {α : Type} {L : Lay α} (a : α) {w : World} {b : Nat} {t : TypeId} (o : Own w b (L.f a) t) : SlT L w (.slice (some ⟨b, 0, none⟩) [a].length 1) [a] := by
  have h : w.ownsRow b t L.k (.slice (some ⟨b, 0, none⟩) 1 1) 1 (flatT L [a]) := by
    refine ⟨by rw [flatT_len]; rfl, Or.inr ⟨b, 1, (L.f a).toArray, rfl, Nat.le_refl _, o, Nat.le_refl _, by unfold maxLen; omega, ?_, ?_⟩⟩
    · simp [L.len]
    · rw [flatT_one, show 1 * L.k = (L.f a).length by rw [L.len]; omega]; simp
  exact slt_of_own h
theorem slt_len {α : Type} {L : Lay α} {w : World} {p : Option Addr} {n c : Nat} {l : List α} (h : SlT L w (.slice p n c) l) : SlT L w (.slice p l.length c) l := by
  obtain ⟨q, k, e, _⟩ := h.form l.length rfl
  injection e with e1 e2 e3
  subst e2
  exact h
theorem slt_none0 {α : Type} {L : Lay α} (w : World) (p : Option Addr) : SlT L w (.slice p 0 0) [] := ⟨p, 0, rfl, Nat.le_refl _, by unfold maxLen; omega, fun _ => rfl, fun i r h => by simp at h⟩
set_option linter.unusedSimpArgs false in
set_option linter.unusedVariables false in
set_option maxRecDepth 100000 in
set_option maxHeartbeats 2000000 in
theorem ins_mid1_u (b off cap : Nat) (l : List Us) (x : Us) (w : World) (sl : SlU w (.slice (some ⟨b, off, none⟩) l.length cap) l) (h70 : l.length ≤ 70) (hlc : l.length ≤ cap) (hcm : cap ≤ maxLen) (hkc : l.length < cap) (hi : idxD (fun d : Us => decide (x.s < d.s)) l = -1) : Calls Try.prog 30 #[.slice (some ⟨b, off, none⟩) l.length cap, .agg #[.int .i64 x.s, .int .i64 x.o, .int .i64 x.p, .int .i64 x.m], .func (.func 31) #[] #[]] w fun e w' => RetU w (l.take l.length ++ x :: l.drop l.length) e w' := by
  have k0 : (0 : Int) ≤ (l.length : Int) := Int.natCast_nonneg _
  have k1 : (l.length : Int) ≤ (l.length : Int) := by omega
  have k2 : (l.length : Int) ≤ (cap : Int) := by omega
  have k4 : (l.length : Int) ≤ (cap : Int) := by omega
  have k5 : (l.length : Int) ≤ 70 := by omega
  have k6 : (l.length : Int) < (cap : Int) := by omega
  have k7 : ¬ cap = l.length := by omega
  unfold maxLen at hcm
  have BW := Lib.hid (show Below w.heap.size w ((w.alloc (.cells #[.int .i64 x.s, .int .i64 x.o, .int .i64 x.p, .int .i64 x.m] 32)).alloc (.cells #[.func (.func 31) #[] #[]] 68)) from ((Below.refl _ _).alloc (Nat.le_refl _) _).alloc (by simp) _)
  have SL := Lib.hid (sl.below BW.out)
  have oX := Lib.hid (Own.alloc (own_at (w := w) [.int .i64 x.s, .int .i64 x.o, .int .i64 x.p, .int .i64 x.m] 32 rfl) (.cells #[.func (.func 31) #[] #[]] 68))
  have oA := Lib.hid (own_at (w := w.alloc (.cells #[.int .i64 x.s, .int .i64 x.o, .int .i64 x.p, .int .i64 x.m] 32)) (n := w.heap.size + 1) [.func (.func 31) #[] #[]] 68 (by simp))
  have HI := Lib.hid hi
  have HQ := Lib.hid (show ∀ (d : Us) (wx : World), Below ((w.alloc (.cells #[.int .i64 x.s, .int .i64 x.o, .int .i64 x.p, .int .i64 x.m] 32)).alloc (.cells #[.func (.func 31) #[] #[]] 68)).heap.size ((w.alloc (.cells #[.int .i64 x.s, .int .i64 x.o, .int .i64 x.p, .int .i64 x.m] 32)).alloc (.cells #[.func (.func 31) #[] #[]] 68)) wx → Calls Try.prog 62 #[.agg #[.int .i64 d.s, .int .i64 d.o, .int .i64 d.p, .int .i64 d.m], .pointer (some ⟨(w.heap.size + 1), 0, none⟩), .pointer (some ⟨w.heap.size, 0, none⟩)] wx fun e w' => e = .returned (.bool ((fun d : Us => decide (x.s < d.s)) d)) ∧ Below wx.heap.size wx w' from fun d wx hbx => insu_any (w.heap.size + 1) w.heap.size x d wx (Nat.lt_of_lt_of_le (by first | omega | (simp; done) | (simp; omega)) hbx.size) (Nat.lt_of_lt_of_le (by first | omega | (simp; done) | (simp; omega)) hbx.size) ((hbx.cell (p := ⟨w.heap.size + 1, 0, none⟩) (by first | omega | (simp; done) | (simp; omega))).trans (oA.out.cell (i := 0) rfl)) ((hbx.cell (p := ⟨w.heap.size, 0, none⟩) (by first | omega | (simp; done) | (simp; omega))).trans (oX.out.cell (i := 0) rfl)) ((hbx.cell (p := ⟨w.heap.size, 1, none⟩) (by first | omega | (simp; done) | (simp; omega))).trans (oX.out.cell (i := 1) rfl)) ((hbx.cell (p := ⟨w.heap.size, 2, none⟩) (by first | omega | (simp; done) | (simp; omega))).trans (oX.out.cell (i := 2) rfl)) ((hbx.cell (p := ⟨w.heap.size, 3, none⟩) (by first | omega | (simp; done) | (simp; omega))).trans (oX.out.cell (i := 3) rfl)))
  clear hi sl
  go_enter Try.func30, Try.ntmps30
  go_wp2_with (first | (go_at_call 61; refine (ix_insu_lit _ _ (w.heap.size + 1) w.heap.size (fun d : Us => decide (x.s < d.s)) ((w.alloc (.cells #[.int .i64 x.s, .int .i64 x.o, .int .i64 x.p, .int .i64 x.m] 32)).alloc (.cells #[.func (.func 31) #[] #[]] 68)).heap.size (-1) _ SL.out (Nat.le_refl _) HQ.out HI.out).mono ?_; rintro e w1 ⟨rfl, hb2⟩; have B1 := Lib.hid (belowTo BW.out hb2 BW.out.size); have X1 := Lib.hid (oX.out.below hb2); have S1 := Lib.hid (SL.out.below hb2); clear hb2; obtain ⟨x0, x1, x2, x3, _, _⟩ := own4 X1.out) | fail)
  have OXd := Lib.hid X1.out.drew
  have SD := Lib.hid (S1.out.below (Below.refl _ _).drew)
  have BD := Lib.hid B1.out.drew
  obtain ⟨y0, y1, y2, y3, _, _⟩ := own4 OXd.out
  clear oX oA SL
  refine region_H 11 #[false, false, false, false, false, false, false, false, false, false, false] (by kernel_rfl) (by kernel_rfl) (fun w' => w'.cell? ⟨w.heap.size, 0, none⟩ = some (.int .i64 x.s) ∧ w'.cell? ⟨w.heap.size, 1, none⟩ = some (.int .i64 x.o) ∧ w'.cell? ⟨w.heap.size, 2, none⟩ = some (.int .i64 x.p) ∧ w'.cell? ⟨w.heap.size, 3, none⟩ = some (.int .i64 x.m)) (by kernel_rfl) ?x1s (fun hHeld => ?x1r)
  case x1s => exact ⟨y0, y1, y2, y3⟩
  refine wpH_take (i := 0) (some 15) (v := ?x2v) rfl (by kernel_rfl) (by kernel_rfl) (by kernel_rfl) rfl (fun _ _ _ h => h) (Or.inl ⟨by rfl, ?x2y⟩) hHeld ?x2r
  case x2y => (intro w hSw; (try dsimp only at hSw); go_simp; try with_reducible rfl)
  try simp only [Act.put, List.setIfInBounds_toArray, List.set_cons_zero, List.set_cons_succ]
  refine wpH_take (i := 1) (some 16) (v := ?x3v) rfl (by kernel_rfl) (by kernel_rfl) (by kernel_rfl) rfl (fun _ _ _ h => h) (Or.inl ⟨by rfl, ?x3y⟩) hHeld ?x3r
  case x3y => (intro w hSw; (try dsimp only at hSw); go_simp; try with_reducible rfl)
  try simp only [Act.put, List.setIfInBounds_toArray, List.set_cons_zero, List.set_cons_succ]
  refine wpH_take (i := 2) (some 17) (v := ?x4v) rfl (by kernel_rfl) (by kernel_rfl) (by kernel_rfl) rfl (fun _ _ _ h => h) (Or.inl ⟨by rfl, ?x4y⟩) hHeld ?x4r
  case x4y => (intro w hSw; (try dsimp only at hSw); go_simp; try with_reducible rfl)
  try simp only [Act.put, List.setIfInBounds_toArray, List.set_cons_zero, List.set_cons_succ]
  refine wpH_take (i := 3) (some 18) (v := ?x5v) rfl (by kernel_rfl) (by kernel_rfl) (by kernel_rfl) rfl (fun _ _ _ h => h) (Or.inl ⟨by rfl, ?x5y⟩) hHeld ?x5r
  case x5y => (intro w hSw; (try dsimp only at hSw); go_simp; try with_reducible rfl)
  try simp only [Act.put, List.setIfInBounds_toArray, List.set_cons_zero, List.set_cons_succ]
  refine wpH_take (i := 5) (some 20) (v := ?x6v) rfl (by kernel_rfl) (by kernel_rfl) (by kernel_rfl) rfl (fun _ _ _ h => h) (Or.inl ⟨by rfl, ?x6y⟩) hHeld ?x6r
  case x6y => (intro w hSw; (try dsimp only at hSw); go_simp; try with_reducible rfl)
  try simp only [Act.put, List.setIfInBounds_toArray, List.set_cons_zero, List.set_cons_succ]
  refine wpH_take (i := 6) (some 21) (v := ?x7v) rfl (by kernel_rfl) (by kernel_rfl) (by kernel_rfl) rfl (fun _ _ _ h => h) (Or.inl ⟨by rfl, ?x7y⟩) hHeld ?x7r
  case x7y => (intro w hSw; (try dsimp only at hSw); go_simp; try with_reducible rfl)
  try simp only [Act.put, List.setIfInBounds_toArray, List.set_cons_zero, List.set_cons_succ]
  refine wpH_take (i := 7) (some 22) (v := ?x8v) rfl (by kernel_rfl) (by kernel_rfl) (by kernel_rfl) rfl (fun _ _ _ h => h) (Or.inl ⟨by rfl, ?x8y⟩) hHeld ?x8r
  case x8y => (intro w hSw; (try dsimp only at hSw); go_simp; try with_reducible rfl)
  try simp only [Act.put, List.setIfInBounds_toArray, List.set_cons_zero, List.set_cons_succ]
  refine wpH_one (i := 4) (by kernel_rfl) rfl (fun K hK => ?_)
  rw [if_pos (by rfl)]
  go_simp
  have O4 := Lib.hid ((own_at (w := w1) [.int .i64 x.s, .int .i64 x.o, .int .i64 x.p, .int .i64 x.m] 32 rfl).drew)
  have B4 := Lib.hid ((B1.out.alloc B1.out.size (.cells #[.int .i64 x.s, .int .i64 x.o, .int .i64 x.p, .int .i64 x.m] 32)).drew)
  have S4 := Lib.hid ((S1.out.below (belowNew _ (.cells #[.int .i64 x.s, .int .i64 x.o, .int .i64 x.p, .int .i64 x.m] 32))).below (Below.refl _ _).drew)
  have X4 := Lib.hid ((X1.out.alloc (.cells #[.int .i64 x.s, .int .i64 x.o, .int .i64 x.p, .int .i64 x.m] 32)).drew)
  generalize (w1.alloc (.cells #[.int .i64 x.s, .int .i64 x.o, .int .i64 x.p, .int .i64 x.m] 32)).drew = wa at O4 B4 S4 X4 ⊢
  obtain ⟨z0, z1, z2, z3, _, _⟩ := own4 X4.out
  refine hK.out _ _ (⟨z0, z1, z2, z3⟩) ?_
  clear hK K hHeld
  intro hHeld
  try simp only [Act.put, List.setIfInBounds_toArray, List.set_cons_zero, List.set_cons_succ]
  refine wpH_one (i := 8) (by kernel_rfl) rfl (fun K hK => ?_)
  rw [if_pos (by rfl)]
  go_simp
  have O8 := Lib.hid (own_at (w := wa) [.slice (some ⟨b, off, none⟩) l.length cap, .slice (some ⟨w1.heap.size, 0, none⟩) 1 1, .slice (some ⟨b, off + l.length * 4, none⟩) 0 (cap - l.length)] 22 rfl)
  have E8 := Lib.hid (O4.out.alloc (.cells #[.slice (some ⟨b, off, none⟩) l.length cap, .slice (some ⟨w1.heap.size, 0, none⟩) 1 1, .slice (some ⟨b, off + l.length * 4, none⟩) 0 (cap - l.length)] 22))
  have B8 := Lib.hid (B4.out.alloc B4.out.size (.cells #[.slice (some ⟨b, off, none⟩) l.length cap, .slice (some ⟨w1.heap.size, 0, none⟩) 1 1, .slice (some ⟨b, off + l.length * 4, none⟩) 0 (cap - l.length)] 22))
  have S8 := Lib.hid (S4.out.below (belowNew _ (.cells #[.slice (some ⟨b, off, none⟩) l.length cap, .slice (some ⟨w1.heap.size, 0, none⟩) 1 1, .slice (some ⟨b, off + l.length * 4, none⟩) 0 (cap - l.length)] 22)))
  have X8 := Lib.hid (X4.out.alloc (.cells #[.slice (some ⟨b, off, none⟩) l.length cap, .slice (some ⟨w1.heap.size, 0, none⟩) 1 1, .slice (some ⟨b, off + l.length * 4, none⟩) 0 (cap - l.length)] 22))
  obtain ⟨u0, u1, u2, u3, _, _⟩ := own4 X8.out
  refine hK.out _ _ (⟨u0, u1, u2, u3⟩) ?_
  clear hK K hHeld
  intro hHeld
  try simp only [Act.put, List.setIfInBounds_toArray, List.set_cons_zero, List.set_cons_succ]
  refine wpH_one (i := 9) (by kernel_rfl) rfl (fun K hK => ?_)
  rw [if_pos (by rfl)]
  go_simp
  have FA := Lib.hid (show SlU (wa.alloc (.cells #[.slice (some ⟨b, off, none⟩) l.length cap, .slice (some ⟨w1.heap.size, 0, none⟩) 1 1, .slice (some ⟨b, off + l.length * 4, none⟩) 0 (cap - l.length)] 22)) (.slice (some ⟨b, off, none⟩) l.length cap) (l.take l.length) from S8.out.front (k := l.length) (c := cap) (by omega) (by omega) (Nat.le_refl _))
  have FB := Lib.hid (show SlU (wa.alloc (.cells #[.slice (some ⟨b, off, none⟩) l.length cap, .slice (some ⟨w1.heap.size, 0, none⟩) 1 1, .slice (some ⟨b, off + l.length * 4, none⟩) 0 (cap - l.length)] 22)) (.slice (some ⟨b, off + l.length * 4, none⟩) 0 (cap - l.length)) (l.drop l.length) from slt_n0 (S8.out.back (k := l.length)) (by omega))
  refine (catn_u wa.heap.size _ _ _ l.length 1 0 _ _ _ (l.take l.length) [x] (l.drop l.length) _ O8.out.lt (by first | rfl | (rw [List.length_take]; omega)) rfl (by first | rfl | ((rw [List.length_drop]; omega))) (O8.out.cell (i := 0) rfl) (O8.out.cell (i := 1) rfl) (O8.out.cell (i := 2) rfl) FA.out (slt_new (L := usL) x E8.out) FB.out (by omega) (by omega) (by omega)).mono ?_
  rintro e w9 ⟨v9, rfl, hown, hbb⟩
  have R9 := Lib.hid (slt_of_own (L := usL) hown)
  have B9 := Lib.hid (belowTo B8.out hbb B8.out.size)
  have X9 := Lib.hid (X8.out.below hbb)
  clear hown hbb
  obtain ⟨q0, q1, q2, q3, _, _⟩ := own4 X9.out
  refine hK.out _ _ (⟨q0, q1, q2, q3⟩) ?_
  clear hK K hHeld
  intro hHeld
  try simp only [Act.put, List.setIfInBounds_toArray, List.set_cons_zero, List.set_cons_succ]
  refine wpH_take (i := 10) (some 6) (v := ?x12v) rfl (by kernel_rfl) (by kernel_rfl) (by kernel_rfl) rfl (fun _ _ _ h => h) (Or.inl ⟨by rfl, ?x12y⟩) hHeld ?x12r
  case x12y => (intro w hSw; (try dsimp only at hSw); go_simp; try with_reducible rfl)
  try simp only [Act.put, List.setIfInBounds_toArray, List.set_cons_zero, List.set_cons_succ]
  refine wpAnyH_done (by kernel_rfl) ?_ _
  go_wp2_with fail
  go_ret
  exact ⟨_, rfl, by simpa using R9.out, B9.out⟩

set_option linter.unusedSimpArgs false in
set_option linter.unusedVariables false in
set_option maxRecDepth 100000 in
set_option maxHeartbeats 2000000 in
theorem ins_mid2_u (b off cap : Nat) (l : List Us) (x : Us) (w : World) (sl : SlU w (.slice (some ⟨b, off, none⟩) l.length cap) l) (h70 : l.length ≤ 70) (hlc : l.length ≤ cap) (hcm : cap ≤ maxLen) (kk : Nat) (hkl : kk < l.length) (hi : idxD (fun d : Us => decide (x.s < d.s)) l = (kk : Int)) : Calls Try.prog 30 #[.slice (some ⟨b, off, none⟩) l.length cap, .agg #[.int .i64 x.s, .int .i64 x.o, .int .i64 x.p, .int .i64 x.m], .func (.func 31) #[] #[]] w fun e w' => RetU w (l.take kk ++ x :: l.drop kk) e w' := by
  have k0 : (0 : Int) ≤ (kk : Int) := Int.natCast_nonneg _
  have k1 : (kk : Int) ≤ (l.length : Int) := by omega
  have k2 : (kk : Int) ≤ (cap : Int) := by omega
  have k4 : (l.length : Int) ≤ (cap : Int) := by omega
  have k5 : (l.length : Int) ≤ 70 := by omega
  have k6 : (kk : Int) < (cap : Int) := by omega
  have k7 : ¬ cap = kk := by omega
  unfold maxLen at hcm
  have BW := Lib.hid (show Below w.heap.size w ((w.alloc (.cells #[.int .i64 x.s, .int .i64 x.o, .int .i64 x.p, .int .i64 x.m] 32)).alloc (.cells #[.func (.func 31) #[] #[]] 68)) from ((Below.refl _ _).alloc (Nat.le_refl _) _).alloc (by simp) _)
  have SL := Lib.hid (sl.below BW.out)
  have oX := Lib.hid (Own.alloc (own_at (w := w) [.int .i64 x.s, .int .i64 x.o, .int .i64 x.p, .int .i64 x.m] 32 rfl) (.cells #[.func (.func 31) #[] #[]] 68))
  have oA := Lib.hid (own_at (w := w.alloc (.cells #[.int .i64 x.s, .int .i64 x.o, .int .i64 x.p, .int .i64 x.m] 32)) (n := w.heap.size + 1) [.func (.func 31) #[] #[]] 68 (by simp))
  have HI := Lib.hid hi
  have HQ := Lib.hid (show ∀ (d : Us) (wx : World), Below ((w.alloc (.cells #[.int .i64 x.s, .int .i64 x.o, .int .i64 x.p, .int .i64 x.m] 32)).alloc (.cells #[.func (.func 31) #[] #[]] 68)).heap.size ((w.alloc (.cells #[.int .i64 x.s, .int .i64 x.o, .int .i64 x.p, .int .i64 x.m] 32)).alloc (.cells #[.func (.func 31) #[] #[]] 68)) wx → Calls Try.prog 62 #[.agg #[.int .i64 d.s, .int .i64 d.o, .int .i64 d.p, .int .i64 d.m], .pointer (some ⟨(w.heap.size + 1), 0, none⟩), .pointer (some ⟨w.heap.size, 0, none⟩)] wx fun e w' => e = .returned (.bool ((fun d : Us => decide (x.s < d.s)) d)) ∧ Below wx.heap.size wx w' from fun d wx hbx => insu_any (w.heap.size + 1) w.heap.size x d wx (Nat.lt_of_lt_of_le (by first | omega | (simp; done) | (simp; omega)) hbx.size) (Nat.lt_of_lt_of_le (by first | omega | (simp; done) | (simp; omega)) hbx.size) ((hbx.cell (p := ⟨w.heap.size + 1, 0, none⟩) (by first | omega | (simp; done) | (simp; omega))).trans (oA.out.cell (i := 0) rfl)) ((hbx.cell (p := ⟨w.heap.size, 0, none⟩) (by first | omega | (simp; done) | (simp; omega))).trans (oX.out.cell (i := 0) rfl)) ((hbx.cell (p := ⟨w.heap.size, 1, none⟩) (by first | omega | (simp; done) | (simp; omega))).trans (oX.out.cell (i := 1) rfl)) ((hbx.cell (p := ⟨w.heap.size, 2, none⟩) (by first | omega | (simp; done) | (simp; omega))).trans (oX.out.cell (i := 2) rfl)) ((hbx.cell (p := ⟨w.heap.size, 3, none⟩) (by first | omega | (simp; done) | (simp; omega))).trans (oX.out.cell (i := 3) rfl)))
  clear hi sl
  go_enter Try.func30, Try.ntmps30
  go_wp2_with (first | (go_at_call 61; refine (ix_insu_lit _ _ (w.heap.size + 1) w.heap.size (fun d : Us => decide (x.s < d.s)) ((w.alloc (.cells #[.int .i64 x.s, .int .i64 x.o, .int .i64 x.p, .int .i64 x.m] 32)).alloc (.cells #[.func (.func 31) #[] #[]] 68)).heap.size ((kk : Int)) _ SL.out (Nat.le_refl _) HQ.out HI.out).mono ?_; rintro e w1 ⟨rfl, hb2⟩; have B1 := Lib.hid (belowTo BW.out hb2 BW.out.size); have X1 := Lib.hid (oX.out.below hb2); have S1 := Lib.hid (SL.out.below hb2); clear hb2; obtain ⟨x0, x1, x2, x3, _, _⟩ := own4 X1.out) | fail)
  have OXd := Lib.hid X1.out.drew
  have SD := Lib.hid (S1.out.below (Below.refl _ _).drew)
  have BD := Lib.hid B1.out.drew
  obtain ⟨y0, y1, y2, y3, _, _⟩ := own4 OXd.out
  clear oX oA SL
  refine region_H 11 #[false, false, false, false, false, false, false, false, false, false, false] (by kernel_rfl) (by kernel_rfl) (fun w' => w'.cell? ⟨w.heap.size, 0, none⟩ = some (.int .i64 x.s) ∧ w'.cell? ⟨w.heap.size, 1, none⟩ = some (.int .i64 x.o) ∧ w'.cell? ⟨w.heap.size, 2, none⟩ = some (.int .i64 x.p) ∧ w'.cell? ⟨w.heap.size, 3, none⟩ = some (.int .i64 x.m)) (by kernel_rfl) ?x13s (fun hHeld => ?x13r)
  case x13s => exact ⟨y0, y1, y2, y3⟩
  refine wpH_take (i := 0) (some 15) (v := ?x14v) rfl (by kernel_rfl) (by kernel_rfl) (by kernel_rfl) rfl (fun _ _ _ h => h) (Or.inl ⟨by rfl, ?x14y⟩) hHeld ?x14r
  case x14y => (intro w hSw; (try dsimp only at hSw); go_simp; try with_reducible rfl)
  try simp only [Act.put, List.setIfInBounds_toArray, List.set_cons_zero, List.set_cons_succ]
  refine wpH_take (i := 1) (some 16) (v := ?x15v) rfl (by kernel_rfl) (by kernel_rfl) (by kernel_rfl) rfl (fun _ _ _ h => h) (Or.inl ⟨by rfl, ?x15y⟩) hHeld ?x15r
  case x15y => (intro w hSw; (try dsimp only at hSw); go_simp; try with_reducible rfl)
  try simp only [Act.put, List.setIfInBounds_toArray, List.set_cons_zero, List.set_cons_succ]
  refine wpH_take (i := 2) (some 17) (v := ?x16v) rfl (by kernel_rfl) (by kernel_rfl) (by kernel_rfl) rfl (fun _ _ _ h => h) (Or.inl ⟨by rfl, ?x16y⟩) hHeld ?x16r
  case x16y => (intro w hSw; (try dsimp only at hSw); go_simp; try with_reducible rfl)
  try simp only [Act.put, List.setIfInBounds_toArray, List.set_cons_zero, List.set_cons_succ]
  refine wpH_take (i := 3) (some 18) (v := ?x17v) rfl (by kernel_rfl) (by kernel_rfl) (by kernel_rfl) rfl (fun _ _ _ h => h) (Or.inl ⟨by rfl, ?x17y⟩) hHeld ?x17r
  case x17y => (intro w hSw; (try dsimp only at hSw); go_simp; try with_reducible rfl)
  try simp only [Act.put, List.setIfInBounds_toArray, List.set_cons_zero, List.set_cons_succ]
  refine wpH_take (i := 5) (some 20) (v := ?x18v) rfl (by kernel_rfl) (by kernel_rfl) (by kernel_rfl) rfl (fun _ _ _ h => h) (Or.inl ⟨by rfl, ?x18y⟩) hHeld ?x18r
  case x18y => (intro w hSw; (try dsimp only at hSw); go_simp; try with_reducible rfl)
  try simp only [Act.put, List.setIfInBounds_toArray, List.set_cons_zero, List.set_cons_succ]
  refine wpH_take (i := 6) (some 21) (v := ?x19v) rfl (by kernel_rfl) (by kernel_rfl) (by kernel_rfl) rfl (fun _ _ _ h => h) (Or.inl ⟨by rfl, ?x19y⟩) hHeld ?x19r
  case x19y => (intro w hSw; (try dsimp only at hSw); go_simp; try with_reducible rfl)
  try simp only [Act.put, List.setIfInBounds_toArray, List.set_cons_zero, List.set_cons_succ]
  refine wpH_take (i := 7) (some 22) (v := ?x20v) rfl (by kernel_rfl) (by kernel_rfl) (by kernel_rfl) rfl (fun _ _ _ h => h) (Or.inl ⟨by rfl, ?x20y⟩) hHeld ?x20r
  case x20y => (intro w hSw; (try dsimp only at hSw); go_simp; try with_reducible rfl)
  try simp only [Act.put, List.setIfInBounds_toArray, List.set_cons_zero, List.set_cons_succ]
  refine wpH_one (i := 4) (by kernel_rfl) rfl (fun K hK => ?_)
  rw [if_pos (by rfl)]
  go_simp
  have O4 := Lib.hid ((own_at (w := w1) [.int .i64 x.s, .int .i64 x.o, .int .i64 x.p, .int .i64 x.m] 32 rfl).drew)
  have B4 := Lib.hid ((B1.out.alloc B1.out.size (.cells #[.int .i64 x.s, .int .i64 x.o, .int .i64 x.p, .int .i64 x.m] 32)).drew)
  have S4 := Lib.hid ((S1.out.below (belowNew _ (.cells #[.int .i64 x.s, .int .i64 x.o, .int .i64 x.p, .int .i64 x.m] 32))).below (Below.refl _ _).drew)
  have X4 := Lib.hid ((X1.out.alloc (.cells #[.int .i64 x.s, .int .i64 x.o, .int .i64 x.p, .int .i64 x.m] 32)).drew)
  generalize (w1.alloc (.cells #[.int .i64 x.s, .int .i64 x.o, .int .i64 x.p, .int .i64 x.m] 32)).drew = wa at O4 B4 S4 X4 ⊢
  obtain ⟨z0, z1, z2, z3, _, _⟩ := own4 X4.out
  refine hK.out _ _ (⟨z0, z1, z2, z3⟩) ?_
  clear hK K hHeld
  intro hHeld
  try simp only [Act.put, List.setIfInBounds_toArray, List.set_cons_zero, List.set_cons_succ]
  refine wpH_one (i := 8) (by kernel_rfl) rfl (fun K hK => ?_)
  rw [if_pos (by rfl)]
  go_simp
  have O8 := Lib.hid (own_at (w := wa) [.slice (some ⟨b, off, none⟩) kk cap, .slice (some ⟨w1.heap.size, 0, none⟩) 1 1, .slice (some ⟨b, off + kk * 4, none⟩) (l.length - kk) (cap - kk)] 22 rfl)
  have E8 := Lib.hid (O4.out.alloc (.cells #[.slice (some ⟨b, off, none⟩) kk cap, .slice (some ⟨w1.heap.size, 0, none⟩) 1 1, .slice (some ⟨b, off + kk * 4, none⟩) (l.length - kk) (cap - kk)] 22))
  have B8 := Lib.hid (B4.out.alloc B4.out.size (.cells #[.slice (some ⟨b, off, none⟩) kk cap, .slice (some ⟨w1.heap.size, 0, none⟩) 1 1, .slice (some ⟨b, off + kk * 4, none⟩) (l.length - kk) (cap - kk)] 22))
  have S8 := Lib.hid (S4.out.below (belowNew _ (.cells #[.slice (some ⟨b, off, none⟩) kk cap, .slice (some ⟨w1.heap.size, 0, none⟩) 1 1, .slice (some ⟨b, off + kk * 4, none⟩) (l.length - kk) (cap - kk)] 22)))
  have X8 := Lib.hid (X4.out.alloc (.cells #[.slice (some ⟨b, off, none⟩) kk cap, .slice (some ⟨w1.heap.size, 0, none⟩) 1 1, .slice (some ⟨b, off + kk * 4, none⟩) (l.length - kk) (cap - kk)] 22))
  obtain ⟨u0, u1, u2, u3, _, _⟩ := own4 X8.out
  refine hK.out _ _ (⟨u0, u1, u2, u3⟩) ?_
  clear hK K hHeld
  intro hHeld
  try simp only [Act.put, List.setIfInBounds_toArray, List.set_cons_zero, List.set_cons_succ]
  refine wpH_one (i := 9) (by kernel_rfl) rfl (fun K hK => ?_)
  rw [if_pos (by rfl)]
  go_simp
  have FA := Lib.hid (show SlU (wa.alloc (.cells #[.slice (some ⟨b, off, none⟩) kk cap, .slice (some ⟨w1.heap.size, 0, none⟩) 1 1, .slice (some ⟨b, off + kk * 4, none⟩) (l.length - kk) (cap - kk)] 22)) (.slice (some ⟨b, off, none⟩) kk cap) (l.take kk) from S8.out.front (k := kk) (c := cap) (by omega) (by omega) (Nat.le_refl _))
  have FB := Lib.hid (show SlU (wa.alloc (.cells #[.slice (some ⟨b, off, none⟩) kk cap, .slice (some ⟨w1.heap.size, 0, none⟩) 1 1, .slice (some ⟨b, off + kk * 4, none⟩) (l.length - kk) (cap - kk)] 22)) (.slice (some ⟨b, off + kk * 4, none⟩) (l.length - kk) (cap - kk)) (l.drop kk) from S8.out.back (k := kk))
  refine (catn_u wa.heap.size _ _ _ kk 1 (l.length - kk) _ _ _ (l.take kk) [x] (l.drop kk) _ O8.out.lt (by first | rfl | (rw [List.length_take]; omega)) rfl (by first | rfl | (rw [List.length_drop])) (O8.out.cell (i := 0) rfl) (O8.out.cell (i := 1) rfl) (O8.out.cell (i := 2) rfl) FA.out (slt_new (L := usL) x E8.out) FB.out (by omega) (by omega) (by omega)).mono ?_
  rintro e w9 ⟨v9, rfl, hown, hbb⟩
  have R9 := Lib.hid (slt_of_own (L := usL) hown)
  have B9 := Lib.hid (belowTo B8.out hbb B8.out.size)
  have X9 := Lib.hid (X8.out.below hbb)
  clear hown hbb
  obtain ⟨q0, q1, q2, q3, _, _⟩ := own4 X9.out
  refine hK.out _ _ (⟨q0, q1, q2, q3⟩) ?_
  clear hK K hHeld
  intro hHeld
  try simp only [Act.put, List.setIfInBounds_toArray, List.set_cons_zero, List.set_cons_succ]
  refine wpH_take (i := 10) (some 6) (v := ?x24v) rfl (by kernel_rfl) (by kernel_rfl) (by kernel_rfl) rfl (fun _ _ _ h => h) (Or.inl ⟨by rfl, ?x24y⟩) hHeld ?x24r
  case x24y => (intro w hSw; (try dsimp only at hSw); go_simp; try with_reducible rfl)
  try simp only [Act.put, List.setIfInBounds_toArray, List.set_cons_zero, List.set_cons_succ]
  refine wpAnyH_done (by kernel_rfl) ?_ _
  go_wp2_with fail
  go_ret
  exact ⟨_, rfl, by simpa using R9.out, B9.out⟩

set_option linter.unusedSimpArgs false in
set_option linter.unusedVariables false in
set_option maxRecDepth 100000 in
set_option maxHeartbeats 2000000 in
theorem ins_mid_u (b off cap : Nat) (l : List Us) (x : Us) (w : World) (sl : SlU w (.slice (some ⟨b, off, none⟩) l.length cap) l) (h70 : l.length ≤ 70) (hlc : l.length ≤ cap) (hcm : cap ≤ maxLen) (kk : Nat) (hkl : kk ≤ l.length) (hkc : kk < cap) (hi : idxD (fun d : Us => decide (x.s < d.s)) l = if kk = l.length then -1 else (kk : Int)) : Calls Try.prog 30 #[.slice (some ⟨b, off, none⟩) l.length cap, .agg #[.int .i64 x.s, .int .i64 x.o, .int .i64 x.p, .int .i64 x.m], .func (.func 31) #[] #[]] w fun e w' => RetU w (l.take kk ++ x :: l.drop kk) e w' := by
  have k0 : (0 : Int) ≤ (kk : Int) := Int.natCast_nonneg _
  have k1 : (kk : Int) ≤ (l.length : Int) := by omega
  have k2 : (kk : Int) ≤ (cap : Int) := by omega
  have k4 : (l.length : Int) ≤ (cap : Int) := by omega
  have k5 : (l.length : Int) ≤ 70 := by omega
  have k6 : (kk : Int) < (cap : Int) := by omega
  have k7 : ¬ cap = kk := by omega
  unfold maxLen at hcm
  by_cases hend : kk = l.length
  · rw [if_pos hend] at hi
    subst hend
    exact ins_mid1_u b off cap l x w sl h70 hlc (by unfold maxLen; exact hcm) hkc hi
  · rw [if_neg hend] at hi
    exact ins_mid2_u b off cap l x w sl h70 hlc (by unfold maxLen; exact hcm) kk (by omega) hi

set_option linter.unusedSimpArgs false in
set_option linter.unusedVariables false in
set_option maxRecDepth 100000 in
set_option maxHeartbeats 2000000 in
theorem ins_end_u (b off : Nat) (l : List Us) (x : Us) (w : World) (sl : SlU w (.slice (some ⟨b, off, none⟩) l.length l.length) l) (h70 : l.length ≤ 70) (hcm : l.length ≤ maxLen) (hi : idxD (fun d : Us => decide (x.s < d.s)) l = -1) : Calls Try.prog 30 #[.slice (some ⟨b, off, none⟩) l.length l.length, .agg #[.int .i64 x.s, .int .i64 x.o, .int .i64 x.p, .int .i64 x.m], .func (.func 31) #[] #[]] w fun e w' => RetU w (l ++ [x]) e w' := by
  have k0 : (0 : Int) ≤ (l.length : Int) := Int.natCast_nonneg _
  have k5 : (l.length : Int) ≤ 70 := by omega
  unfold maxLen at hcm
  have BW := Lib.hid (show Below w.heap.size w ((w.alloc (.cells #[.int .i64 x.s, .int .i64 x.o, .int .i64 x.p, .int .i64 x.m] 32)).alloc (.cells #[.func (.func 31) #[] #[]] 68)) from ((Below.refl _ _).alloc (Nat.le_refl _) _).alloc (by simp) _)
  have SL := Lib.hid (sl.below BW.out)
  have oX := Lib.hid (Own.alloc (own_at (w := w) [.int .i64 x.s, .int .i64 x.o, .int .i64 x.p, .int .i64 x.m] 32 rfl) (.cells #[.func (.func 31) #[] #[]] 68))
  have oA := Lib.hid (own_at (w := w.alloc (.cells #[.int .i64 x.s, .int .i64 x.o, .int .i64 x.p, .int .i64 x.m] 32)) (n := w.heap.size + 1) [.func (.func 31) #[] #[]] 68 (by simp))
  have HI := Lib.hid hi
  have HQ := Lib.hid (show ∀ (d : Us) (wx : World), Below ((w.alloc (.cells #[.int .i64 x.s, .int .i64 x.o, .int .i64 x.p, .int .i64 x.m] 32)).alloc (.cells #[.func (.func 31) #[] #[]] 68)).heap.size ((w.alloc (.cells #[.int .i64 x.s, .int .i64 x.o, .int .i64 x.p, .int .i64 x.m] 32)).alloc (.cells #[.func (.func 31) #[] #[]] 68)) wx → Calls Try.prog 62 #[.agg #[.int .i64 d.s, .int .i64 d.o, .int .i64 d.p, .int .i64 d.m], .pointer (some ⟨(w.heap.size + 1), 0, none⟩), .pointer (some ⟨w.heap.size, 0, none⟩)] wx fun e w' => e = .returned (.bool ((fun d : Us => decide (x.s < d.s)) d)) ∧ Below wx.heap.size wx w' from fun d wx hbx => insu_any (w.heap.size + 1) w.heap.size x d wx (Nat.lt_of_lt_of_le (by first | omega | (simp; done) | (simp; omega)) hbx.size) (Nat.lt_of_lt_of_le (by first | omega | (simp; done) | (simp; omega)) hbx.size) ((hbx.cell (p := ⟨w.heap.size + 1, 0, none⟩) (by first | omega | (simp; done) | (simp; omega))).trans (oA.out.cell (i := 0) rfl)) ((hbx.cell (p := ⟨w.heap.size, 0, none⟩) (by first | omega | (simp; done) | (simp; omega))).trans (oX.out.cell (i := 0) rfl)) ((hbx.cell (p := ⟨w.heap.size, 1, none⟩) (by first | omega | (simp; done) | (simp; omega))).trans (oX.out.cell (i := 1) rfl)) ((hbx.cell (p := ⟨w.heap.size, 2, none⟩) (by first | omega | (simp; done) | (simp; omega))).trans (oX.out.cell (i := 2) rfl)) ((hbx.cell (p := ⟨w.heap.size, 3, none⟩) (by first | omega | (simp; done) | (simp; omega))).trans (oX.out.cell (i := 3) rfl)))
  clear hi sl
  go_enter Try.func30, Try.ntmps30
  go_wp2_with (first | (go_at_call 61; refine (ix_insu_lit _ _ (w.heap.size + 1) w.heap.size (fun d : Us => decide (x.s < d.s)) ((w.alloc (.cells #[.int .i64 x.s, .int .i64 x.o, .int .i64 x.p, .int .i64 x.m] 32)).alloc (.cells #[.func (.func 31) #[] #[]] 68)).heap.size (-1) _ SL.out (Nat.le_refl _) HQ.out HI.out).mono ?_; rintro e w1 ⟨rfl, hb2⟩; have B1 := Lib.hid (belowTo BW.out hb2 BW.out.size); have X1 := Lib.hid (oX.out.below hb2); have S1 := Lib.hid (SL.out.below hb2); clear hb2; obtain ⟨x0, x1, x2, x3, _, _⟩ := own4 X1.out) | fail)
  have OXd := Lib.hid X1.out.drew
  have SD := Lib.hid (S1.out.below (Below.refl _ _).drew)
  have BD := Lib.hid B1.out.drew
  obtain ⟨y0, y1, y2, y3, _, _⟩ := own4 OXd.out
  clear oX oA SL
  refine region_H 11 #[false, false, false, false, false, false, false, false, false, false, false] (by kernel_rfl) (by kernel_rfl) (fun w' => w'.cell? ⟨w.heap.size, 0, none⟩ = some (.int .i64 x.s) ∧ w'.cell? ⟨w.heap.size, 1, none⟩ = some (.int .i64 x.o) ∧ w'.cell? ⟨w.heap.size, 2, none⟩ = some (.int .i64 x.p) ∧ w'.cell? ⟨w.heap.size, 3, none⟩ = some (.int .i64 x.m)) (by kernel_rfl) ?x25s (fun hHeld => ?x25r)
  case x25s => exact ⟨y0, y1, y2, y3⟩
  refine wpH_take (i := 0) (some 15) (v := ?x26v) rfl (by kernel_rfl) (by kernel_rfl) (by kernel_rfl) rfl (fun _ _ _ h => h) (Or.inl ⟨by rfl, ?x26y⟩) hHeld ?x26r
  case x26y => (intro w hSw; (try dsimp only at hSw); go_simp; try with_reducible rfl)
  try simp only [Act.put, List.setIfInBounds_toArray, List.set_cons_zero, List.set_cons_succ]
  refine wpH_take (i := 1) (some 16) (v := ?x27v) rfl (by kernel_rfl) (by kernel_rfl) (by kernel_rfl) rfl (fun _ _ _ h => h) (Or.inl ⟨by rfl, ?x27y⟩) hHeld ?x27r
  case x27y => (intro w hSw; (try dsimp only at hSw); go_simp; try with_reducible rfl)
  try simp only [Act.put, List.setIfInBounds_toArray, List.set_cons_zero, List.set_cons_succ]
  refine wpH_take (i := 2) (some 17) (v := ?x28v) rfl (by kernel_rfl) (by kernel_rfl) (by kernel_rfl) rfl (fun _ _ _ h => h) (Or.inl ⟨by rfl, ?x28y⟩) hHeld ?x28r
  case x28y => (intro w hSw; (try dsimp only at hSw); go_simp; try with_reducible rfl)
  try simp only [Act.put, List.setIfInBounds_toArray, List.set_cons_zero, List.set_cons_succ]
  refine wpH_take (i := 3) (some 18) (v := ?x29v) rfl (by kernel_rfl) (by kernel_rfl) (by kernel_rfl) rfl (fun _ _ _ h => h) (Or.inl ⟨by rfl, ?x29y⟩) hHeld ?x29r
  case x29y => (intro w hSw; (try dsimp only at hSw); go_simp; try with_reducible rfl)
  try simp only [Act.put, List.setIfInBounds_toArray, List.set_cons_zero, List.set_cons_succ]
  refine wpH_take (i := 5) (some 20) (v := ?x30v) rfl (by kernel_rfl) (by kernel_rfl) (by kernel_rfl) rfl (fun _ _ _ h => h) (Or.inl ⟨by rfl, ?x30y⟩) hHeld ?x30r
  case x30y => (intro w hSw; (try dsimp only at hSw); go_simp; try with_reducible rfl)
  try simp only [Act.put, List.setIfInBounds_toArray, List.set_cons_zero, List.set_cons_succ]
  refine wpH_take (i := 6) (some 21) (v := ?x31v) rfl (by kernel_rfl) (by kernel_rfl) (by kernel_rfl) rfl (fun _ _ _ h => h) (Or.inl ⟨by rfl, ?x31y⟩) hHeld ?x31r
  case x31y => (intro w hSw; (try dsimp only at hSw); go_simp; try with_reducible rfl)
  try simp only [Act.put, List.setIfInBounds_toArray, List.set_cons_zero, List.set_cons_succ]
  refine wpH_take (i := 7) (some 22) (v := ?x32v) rfl (by kernel_rfl) (by kernel_rfl) (by kernel_rfl) rfl (fun _ _ _ h => h) (Or.inl ⟨by rfl, ?x32y⟩) hHeld ?x32r
  case x32y => (intro w hSw; (try dsimp only at hSw); go_simp; try with_reducible rfl)
  try simp only [Act.put, List.setIfInBounds_toArray, List.set_cons_zero, List.set_cons_succ]
  refine wpH_one (i := 4) (by kernel_rfl) rfl (fun K hK => ?_)
  rw [if_pos (by rfl)]
  go_simp
  have O4 := Lib.hid ((own_at (w := w1) [.int .i64 x.s, .int .i64 x.o, .int .i64 x.p, .int .i64 x.m] 32 rfl).drew)
  have B4 := Lib.hid ((B1.out.alloc B1.out.size (.cells #[.int .i64 x.s, .int .i64 x.o, .int .i64 x.p, .int .i64 x.m] 32)).drew)
  have S4 := Lib.hid ((S1.out.below (belowNew _ (.cells #[.int .i64 x.s, .int .i64 x.o, .int .i64 x.p, .int .i64 x.m] 32))).below (Below.refl _ _).drew)
  have X4 := Lib.hid ((X1.out.alloc (.cells #[.int .i64 x.s, .int .i64 x.o, .int .i64 x.p, .int .i64 x.m] 32)).drew)
  generalize (w1.alloc (.cells #[.int .i64 x.s, .int .i64 x.o, .int .i64 x.p, .int .i64 x.m] 32)).drew = wa at O4 B4 S4 X4 ⊢
  obtain ⟨z0, z1, z2, z3, _, _⟩ := own4 X4.out
  refine hK.out _ _ (⟨z0, z1, z2, z3⟩) ?_
  clear hK K hHeld
  intro hHeld
  try simp only [Act.put, List.setIfInBounds_toArray, List.set_cons_zero, List.set_cons_succ]
  refine wpH_one (i := 8) (by kernel_rfl) rfl (fun K hK => ?_)
  rw [if_pos (by rfl)]
  go_simp
  have O8 := Lib.hid (own_at (w := wa) [.slice (some ⟨b, off, none⟩) l.length l.length, .slice (some ⟨w1.heap.size, 0, none⟩) 1 1, .slice (some ⟨b, off, none⟩) 0 0] 22 rfl)
  have E8 := Lib.hid (O4.out.alloc (.cells #[.slice (some ⟨b, off, none⟩) l.length l.length, .slice (some ⟨w1.heap.size, 0, none⟩) 1 1, .slice (some ⟨b, off, none⟩) 0 0] 22))
  have B8 := Lib.hid (B4.out.alloc B4.out.size (.cells #[.slice (some ⟨b, off, none⟩) l.length l.length, .slice (some ⟨w1.heap.size, 0, none⟩) 1 1, .slice (some ⟨b, off, none⟩) 0 0] 22))
  have S8 := Lib.hid (S4.out.below (belowNew _ (.cells #[.slice (some ⟨b, off, none⟩) l.length l.length, .slice (some ⟨w1.heap.size, 0, none⟩) 1 1, .slice (some ⟨b, off, none⟩) 0 0] 22)))
  have X8 := Lib.hid (X4.out.alloc (.cells #[.slice (some ⟨b, off, none⟩) l.length l.length, .slice (some ⟨w1.heap.size, 0, none⟩) 1 1, .slice (some ⟨b, off, none⟩) 0 0] 22))
  obtain ⟨u0, u1, u2, u3, _, _⟩ := own4 X8.out
  refine hK.out _ _ (⟨u0, u1, u2, u3⟩) ?_
  clear hK K hHeld
  intro hHeld
  try simp only [Act.put, List.setIfInBounds_toArray, List.set_cons_zero, List.set_cons_succ]
  refine wpH_one (i := 9) (by kernel_rfl) rfl (fun K hK => ?_)
  rw [if_pos (by rfl)]
  go_simp
  have FA := Lib.hid (show SlU (wa.alloc (.cells #[.slice (some ⟨b, off, none⟩) l.length l.length, .slice (some ⟨w1.heap.size, 0, none⟩) 1 1, .slice (some ⟨b, off, none⟩) 0 0] 22)) (.slice (some ⟨b, off, none⟩) l.length l.length) l from S8.out)
  have FB := Lib.hid (show SlU (wa.alloc (.cells #[.slice (some ⟨b, off, none⟩) l.length l.length, .slice (some ⟨w1.heap.size, 0, none⟩) 1 1, .slice (some ⟨b, off, none⟩) 0 0] 22)) (.slice (some ⟨b, off, none⟩) 0 0) ([] : List Us) from slt_none0 (L := usL) _ (some ⟨b, off, none⟩))
  refine (catn_u wa.heap.size _ _ _ l.length 1 0 _ _ _ l [x] ([] : List Us) _ O8.out.lt (by first | rfl | (rw [List.length_take]; omega)) rfl (by first | rfl | (rw [List.length_drop])) (O8.out.cell (i := 0) rfl) (O8.out.cell (i := 1) rfl) (O8.out.cell (i := 2) rfl) FA.out (slt_new (L := usL) x E8.out) FB.out (by omega) (by omega) (by omega)).mono ?_
  rintro e w9 ⟨v9, rfl, hown, hbb⟩
  have R9 := Lib.hid (slt_of_own (L := usL) hown)
  have B9 := Lib.hid (belowTo B8.out hbb B8.out.size)
  have X9 := Lib.hid (X8.out.below hbb)
  clear hown hbb
  obtain ⟨q0, q1, q2, q3, _, _⟩ := own4 X9.out
  refine hK.out _ _ (⟨q0, q1, q2, q3⟩) ?_
  clear hK K hHeld
  intro hHeld
  try simp only [Act.put, List.setIfInBounds_toArray, List.set_cons_zero, List.set_cons_succ]
  refine wpH_take (i := 10) (some 6) (v := ?x36v) rfl (by kernel_rfl) (by kernel_rfl) (by kernel_rfl) rfl (fun _ _ _ h => h) (Or.inl ⟨by rfl, ?x36y⟩) hHeld ?x36r
  case x36y => (intro w hSw; (try dsimp only at hSw); go_simp; try with_reducible rfl)
  try simp only [Act.put, List.setIfInBounds_toArray, List.set_cons_zero, List.set_cons_succ]
  refine wpAnyH_done (by kernel_rfl) ?_ _
  go_wp2_with fail
  go_ret
  exact ⟨_, rfl, by simpa using R9.out, B9.out⟩

set_option linter.unusedSimpArgs false in
set_option linter.unusedVariables false in
set_option maxRecDepth 100000 in
set_option maxHeartbeats 2000000 in
theorem ins_emp_u (b off cap : Nat) (fo : Option Nat) (l : List Us) (x : Us) (w : World) (sl : SlU w (.slice (some ⟨b, off, fo⟩) 0 cap) l) (h70 : l.length ≤ 70) (hl : l = []) (hcm : cap ≤ maxLen) (hi : idxD (fun d : Us => decide (x.s < d.s)) l = -1) : Calls Try.prog 30 #[.slice (some ⟨b, off, fo⟩) 0 cap, .agg #[.int .i64 x.s, .int .i64 x.o, .int .i64 x.p, .int .i64 x.m], .func (.func 31) #[] #[]] w fun e w' => RetU w ([x]) e w' := by
  subst hl
  have k0 : (0 : Int) ≤ (cap : Int) := Int.natCast_nonneg _
  unfold maxLen at hcm
  have BW := Lib.hid (show Below w.heap.size w ((w.alloc (.cells #[.int .i64 x.s, .int .i64 x.o, .int .i64 x.p, .int .i64 x.m] 32)).alloc (.cells #[.func (.func 31) #[] #[]] 68)) from ((Below.refl _ _).alloc (Nat.le_refl _) _).alloc (by simp) _)
  have SL := Lib.hid (sl.below BW.out)
  have oX := Lib.hid (Own.alloc (own_at (w := w) [.int .i64 x.s, .int .i64 x.o, .int .i64 x.p, .int .i64 x.m] 32 rfl) (.cells #[.func (.func 31) #[] #[]] 68))
  have oA := Lib.hid (own_at (w := w.alloc (.cells #[.int .i64 x.s, .int .i64 x.o, .int .i64 x.p, .int .i64 x.m] 32)) (n := w.heap.size + 1) [.func (.func 31) #[] #[]] 68 (by simp))
  have HI := Lib.hid hi
  have HQ := Lib.hid (show ∀ (d : Us) (wx : World), Below ((w.alloc (.cells #[.int .i64 x.s, .int .i64 x.o, .int .i64 x.p, .int .i64 x.m] 32)).alloc (.cells #[.func (.func 31) #[] #[]] 68)).heap.size ((w.alloc (.cells #[.int .i64 x.s, .int .i64 x.o, .int .i64 x.p, .int .i64 x.m] 32)).alloc (.cells #[.func (.func 31) #[] #[]] 68)) wx → Calls Try.prog 62 #[.agg #[.int .i64 d.s, .int .i64 d.o, .int .i64 d.p, .int .i64 d.m], .pointer (some ⟨(w.heap.size + 1), 0, none⟩), .pointer (some ⟨w.heap.size, 0, none⟩)] wx fun e w' => e = .returned (.bool ((fun d : Us => decide (x.s < d.s)) d)) ∧ Below wx.heap.size wx w' from fun d wx hbx => insu_any (w.heap.size + 1) w.heap.size x d wx (Nat.lt_of_lt_of_le (by first | omega | (simp; done) | (simp; omega)) hbx.size) (Nat.lt_of_lt_of_le (by first | omega | (simp; done) | (simp; omega)) hbx.size) ((hbx.cell (p := ⟨w.heap.size + 1, 0, none⟩) (by first | omega | (simp; done) | (simp; omega))).trans (oA.out.cell (i := 0) rfl)) ((hbx.cell (p := ⟨w.heap.size, 0, none⟩) (by first | omega | (simp; done) | (simp; omega))).trans (oX.out.cell (i := 0) rfl)) ((hbx.cell (p := ⟨w.heap.size, 1, none⟩) (by first | omega | (simp; done) | (simp; omega))).trans (oX.out.cell (i := 1) rfl)) ((hbx.cell (p := ⟨w.heap.size, 2, none⟩) (by first | omega | (simp; done) | (simp; omega))).trans (oX.out.cell (i := 2) rfl)) ((hbx.cell (p := ⟨w.heap.size, 3, none⟩) (by first | omega | (simp; done) | (simp; omega))).trans (oX.out.cell (i := 3) rfl)))
  clear hi sl
  go_enter Try.func30, Try.ntmps30
  go_wp2_with (first | (go_at_call 61; refine (ix_insu_lit _ _ (w.heap.size + 1) w.heap.size (fun d : Us => decide (x.s < d.s)) ((w.alloc (.cells #[.int .i64 x.s, .int .i64 x.o, .int .i64 x.p, .int .i64 x.m] 32)).alloc (.cells #[.func (.func 31) #[] #[]] 68)).heap.size (-1) _ SL.out (Nat.le_refl _) HQ.out HI.out).mono ?_; rintro e w1 ⟨rfl, hb2⟩; have B1 := Lib.hid (belowTo BW.out hb2 BW.out.size); have X1 := Lib.hid (oX.out.below hb2); have S1 := Lib.hid (SL.out.below hb2); clear hb2; obtain ⟨x0, x1, x2, x3, _, _⟩ := own4 X1.out) | fail)
  have OXd := Lib.hid X1.out.drew
  have SD := Lib.hid (S1.out.below (Below.refl _ _).drew)
  have BD := Lib.hid B1.out.drew
  obtain ⟨y0, y1, y2, y3, _, _⟩ := own4 OXd.out
  clear oX oA SL
  refine region_H 11 #[false, false, false, false, false, false, false, false, false, false, false] (by kernel_rfl) (by kernel_rfl) (fun w' => w'.cell? ⟨w.heap.size, 0, none⟩ = some (.int .i64 x.s) ∧ w'.cell? ⟨w.heap.size, 1, none⟩ = some (.int .i64 x.o) ∧ w'.cell? ⟨w.heap.size, 2, none⟩ = some (.int .i64 x.p) ∧ w'.cell? ⟨w.heap.size, 3, none⟩ = some (.int .i64 x.m)) (by kernel_rfl) ?x37s (fun hHeld => ?x37r)
  case x37s => exact ⟨y0, y1, y2, y3⟩
  refine wpH_take (i := 0) (some 15) (v := ?x38v) rfl (by kernel_rfl) (by kernel_rfl) (by kernel_rfl) rfl (fun _ _ _ h => h) (Or.inl ⟨by rfl, ?x38y⟩) hHeld ?x38r
  case x38y => (intro w hSw; (try dsimp only at hSw); go_simp; try with_reducible rfl)
  try simp only [Act.put, List.setIfInBounds_toArray, List.set_cons_zero, List.set_cons_succ]
  refine wpH_take (i := 1) (some 16) (v := ?x39v) rfl (by kernel_rfl) (by kernel_rfl) (by kernel_rfl) rfl (fun _ _ _ h => h) (Or.inl ⟨by rfl, ?x39y⟩) hHeld ?x39r
  case x39y => (intro w hSw; (try dsimp only at hSw); go_simp; try with_reducible rfl)
  try simp only [Act.put, List.setIfInBounds_toArray, List.set_cons_zero, List.set_cons_succ]
  refine wpH_take (i := 2) (some 17) (v := ?x40v) rfl (by kernel_rfl) (by kernel_rfl) (by kernel_rfl) rfl (fun _ _ _ h => h) (Or.inl ⟨by rfl, ?x40y⟩) hHeld ?x40r
  case x40y => (intro w hSw; (try dsimp only at hSw); go_simp; try with_reducible rfl)
  try simp only [Act.put, List.setIfInBounds_toArray, List.set_cons_zero, List.set_cons_succ]
  refine wpH_take (i := 3) (some 18) (v := ?x41v) rfl (by kernel_rfl) (by kernel_rfl) (by kernel_rfl) rfl (fun _ _ _ h => h) (Or.inl ⟨by rfl, ?x41y⟩) hHeld ?x41r
  case x41y => (intro w hSw; (try dsimp only at hSw); go_simp; try with_reducible rfl)
  try simp only [Act.put, List.setIfInBounds_toArray, List.set_cons_zero, List.set_cons_succ]
  refine wpH_take (i := 5) (some 20) (v := ?x42v) rfl (by kernel_rfl) (by kernel_rfl) (by kernel_rfl) rfl (fun _ _ _ h => h) (Or.inl ⟨by rfl, ?x42y⟩) hHeld ?x42r
  case x42y => (intro w hSw; (try dsimp only at hSw); go_simp; try with_reducible rfl)
  try simp only [Act.put, List.setIfInBounds_toArray, List.set_cons_zero, List.set_cons_succ]
  refine wpH_take (i := 6) (some 21) (v := ?x43v) rfl (by kernel_rfl) (by kernel_rfl) (by kernel_rfl) rfl (fun _ _ _ h => h) (Or.inl ⟨by rfl, ?x43y⟩) hHeld ?x43r
  case x43y => (intro w hSw; (try dsimp only at hSw); go_simp; try with_reducible rfl)
  try simp only [Act.put, List.setIfInBounds_toArray, List.set_cons_zero, List.set_cons_succ]
  refine wpH_take (i := 7) (some 22) (v := ?x44v) rfl (by kernel_rfl) (by kernel_rfl) (by kernel_rfl) rfl (fun _ _ _ h => h) (Or.inl ⟨by rfl, ?x44y⟩) hHeld ?x44r
  case x44y => (intro w hSw; (try dsimp only at hSw); go_simp; try with_reducible rfl)
  try simp only [Act.put, List.setIfInBounds_toArray, List.set_cons_zero, List.set_cons_succ]
  refine wpH_one (i := 4) (by kernel_rfl) rfl (fun K hK => ?_)
  rw [if_pos (by rfl)]
  go_simp
  have O4 := Lib.hid ((own_at (w := w1) [.int .i64 x.s, .int .i64 x.o, .int .i64 x.p, .int .i64 x.m] 32 rfl).drew)
  have B4 := Lib.hid ((B1.out.alloc B1.out.size (.cells #[.int .i64 x.s, .int .i64 x.o, .int .i64 x.p, .int .i64 x.m] 32)).drew)
  have S4 := Lib.hid ((S1.out.below (belowNew _ (.cells #[.int .i64 x.s, .int .i64 x.o, .int .i64 x.p, .int .i64 x.m] 32))).below (Below.refl _ _).drew)
  have X4 := Lib.hid ((X1.out.alloc (.cells #[.int .i64 x.s, .int .i64 x.o, .int .i64 x.p, .int .i64 x.m] 32)).drew)
  generalize (w1.alloc (.cells #[.int .i64 x.s, .int .i64 x.o, .int .i64 x.p, .int .i64 x.m] 32)).drew = wa at O4 B4 S4 X4 ⊢
  obtain ⟨z0, z1, z2, z3, _, _⟩ := own4 X4.out
  refine hK.out _ _ (⟨z0, z1, z2, z3⟩) ?_
  clear hK K hHeld
  intro hHeld
  try simp only [Act.put, List.setIfInBounds_toArray, List.set_cons_zero, List.set_cons_succ]
  refine wpH_one (i := 8) (by kernel_rfl) rfl (fun K hK => ?_)
  rw [if_pos (by rfl)]
  go_simp
  have O8 := Lib.hid (own_at (w := wa) [.slice (some ⟨b, off, fo⟩) 0 cap, .slice (some ⟨w1.heap.size, 0, none⟩) 1 1, .slice (some ⟨b, off, fo⟩) 0 cap] 22 rfl)
  have E8 := Lib.hid (O4.out.alloc (.cells #[.slice (some ⟨b, off, fo⟩) 0 cap, .slice (some ⟨w1.heap.size, 0, none⟩) 1 1, .slice (some ⟨b, off, fo⟩) 0 cap] 22))
  have B8 := Lib.hid (B4.out.alloc B4.out.size (.cells #[.slice (some ⟨b, off, fo⟩) 0 cap, .slice (some ⟨w1.heap.size, 0, none⟩) 1 1, .slice (some ⟨b, off, fo⟩) 0 cap] 22))
  have S8 := Lib.hid (S4.out.below (belowNew _ (.cells #[.slice (some ⟨b, off, fo⟩) 0 cap, .slice (some ⟨w1.heap.size, 0, none⟩) 1 1, .slice (some ⟨b, off, fo⟩) 0 cap] 22)))
  have X8 := Lib.hid (X4.out.alloc (.cells #[.slice (some ⟨b, off, fo⟩) 0 cap, .slice (some ⟨w1.heap.size, 0, none⟩) 1 1, .slice (some ⟨b, off, fo⟩) 0 cap] 22))
  obtain ⟨u0, u1, u2, u3, _, _⟩ := own4 X8.out
  refine hK.out _ _ (⟨u0, u1, u2, u3⟩) ?_
  clear hK K hHeld
  intro hHeld
  try simp only [Act.put, List.setIfInBounds_toArray, List.set_cons_zero, List.set_cons_succ]
  refine wpH_one (i := 9) (by kernel_rfl) rfl (fun K hK => ?_)
  rw [if_pos (by rfl)]
  go_simp
  have FA := Lib.hid (show SlU (wa.alloc (.cells #[.slice (some ⟨b, off, fo⟩) 0 cap, .slice (some ⟨w1.heap.size, 0, none⟩) 1 1, .slice (some ⟨b, off, fo⟩) 0 cap] 22)) (.slice (some ⟨b, off, fo⟩) 0 cap) ([] : List Us) from S8.out)
  have FB := Lib.hid (show SlU (wa.alloc (.cells #[.slice (some ⟨b, off, fo⟩) 0 cap, .slice (some ⟨w1.heap.size, 0, none⟩) 1 1, .slice (some ⟨b, off, fo⟩) 0 cap] 22)) (.slice (some ⟨b, off, fo⟩) 0 cap) ([] : List Us) from S8.out)
  refine (catn_u wa.heap.size _ _ _ 0 1 0 _ _ _ ([] : List Us) [x] ([] : List Us) _ O8.out.lt (by first | rfl | (rw [List.length_take]; omega)) rfl (by first | rfl | (rw [List.length_drop])) (O8.out.cell (i := 0) rfl) (O8.out.cell (i := 1) rfl) (O8.out.cell (i := 2) rfl) FA.out (slt_new (L := usL) x E8.out) FB.out (by omega) (by omega) (by omega)).mono ?_
  rintro e w9 ⟨v9, rfl, hown, hbb⟩
  have R9 := Lib.hid (slt_of_own (L := usL) hown)
  have B9 := Lib.hid (belowTo B8.out hbb B8.out.size)
  have X9 := Lib.hid (X8.out.below hbb)
  clear hown hbb
  obtain ⟨q0, q1, q2, q3, _, _⟩ := own4 X9.out
  refine hK.out _ _ (⟨q0, q1, q2, q3⟩) ?_
  clear hK K hHeld
  intro hHeld
  try simp only [Act.put, List.setIfInBounds_toArray, List.set_cons_zero, List.set_cons_succ]
  refine wpH_take (i := 10) (some 6) (v := ?x48v) rfl (by kernel_rfl) (by kernel_rfl) (by kernel_rfl) rfl (fun _ _ _ h => h) (Or.inl ⟨by rfl, ?x48y⟩) hHeld ?x48r
  case x48y => (intro w hSw; (try dsimp only at hSw); go_simp; try with_reducible rfl)
  try simp only [Act.put, List.setIfInBounds_toArray, List.set_cons_zero, List.set_cons_succ]
  refine wpAnyH_done (by kernel_rfl) ?_ _
  go_wp2_with fail
  go_ret
  exact ⟨_, rfl, by simpa using R9.out, B9.out⟩

set_option linter.unusedSimpArgs false in
set_option linter.unusedVariables false in
set_option maxRecDepth 100000 in
set_option maxHeartbeats 2000000 in
theorem ins_nil_u  (l : List Us) (x : Us) (w : World) (sl : SlU w (.slice none 0 0) l) (h70 : l.length ≤ 70) (hl : l = []) (hi : idxD (fun d : Us => decide (x.s < d.s)) l = -1) : Calls Try.prog 30 #[.slice none 0 0, .agg #[.int .i64 x.s, .int .i64 x.o, .int .i64 x.p, .int .i64 x.m], .func (.func 31) #[] #[]] w fun e w' => RetU w ([x]) e w' := by
  subst hl
  have BW := Lib.hid (show Below w.heap.size w ((w.alloc (.cells #[.int .i64 x.s, .int .i64 x.o, .int .i64 x.p, .int .i64 x.m] 32)).alloc (.cells #[.func (.func 31) #[] #[]] 68)) from ((Below.refl _ _).alloc (Nat.le_refl _) _).alloc (by simp) _)
  have SL := Lib.hid (sl.below BW.out)
  have oX := Lib.hid (Own.alloc (own_at (w := w) [.int .i64 x.s, .int .i64 x.o, .int .i64 x.p, .int .i64 x.m] 32 rfl) (.cells #[.func (.func 31) #[] #[]] 68))
  have oA := Lib.hid (own_at (w := w.alloc (.cells #[.int .i64 x.s, .int .i64 x.o, .int .i64 x.p, .int .i64 x.m] 32)) (n := w.heap.size + 1) [.func (.func 31) #[] #[]] 68 (by simp))
  have HI := Lib.hid hi
  have HQ := Lib.hid (show ∀ (d : Us) (wx : World), Below ((w.alloc (.cells #[.int .i64 x.s, .int .i64 x.o, .int .i64 x.p, .int .i64 x.m] 32)).alloc (.cells #[.func (.func 31) #[] #[]] 68)).heap.size ((w.alloc (.cells #[.int .i64 x.s, .int .i64 x.o, .int .i64 x.p, .int .i64 x.m] 32)).alloc (.cells #[.func (.func 31) #[] #[]] 68)) wx → Calls Try.prog 62 #[.agg #[.int .i64 d.s, .int .i64 d.o, .int .i64 d.p, .int .i64 d.m], .pointer (some ⟨(w.heap.size + 1), 0, none⟩), .pointer (some ⟨w.heap.size, 0, none⟩)] wx fun e w' => e = .returned (.bool ((fun d : Us => decide (x.s < d.s)) d)) ∧ Below wx.heap.size wx w' from fun d wx hbx => insu_any (w.heap.size + 1) w.heap.size x d wx (Nat.lt_of_lt_of_le (by first | omega | (simp; done) | (simp; omega)) hbx.size) (Nat.lt_of_lt_of_le (by first | omega | (simp; done) | (simp; omega)) hbx.size) ((hbx.cell (p := ⟨w.heap.size + 1, 0, none⟩) (by first | omega | (simp; done) | (simp; omega))).trans (oA.out.cell (i := 0) rfl)) ((hbx.cell (p := ⟨w.heap.size, 0, none⟩) (by first | omega | (simp; done) | (simp; omega))).trans (oX.out.cell (i := 0) rfl)) ((hbx.cell (p := ⟨w.heap.size, 1, none⟩) (by first | omega | (simp; done) | (simp; omega))).trans (oX.out.cell (i := 1) rfl)) ((hbx.cell (p := ⟨w.heap.size, 2, none⟩) (by first | omega | (simp; done) | (simp; omega))).trans (oX.out.cell (i := 2) rfl)) ((hbx.cell (p := ⟨w.heap.size, 3, none⟩) (by first | omega | (simp; done) | (simp; omega))).trans (oX.out.cell (i := 3) rfl)))
  clear hi sl
  go_enter Try.func30, Try.ntmps30
  go_wp2_with (first | (go_at_call 61; refine (ix_insu_lit _ _ (w.heap.size + 1) w.heap.size (fun d : Us => decide (x.s < d.s)) ((w.alloc (.cells #[.int .i64 x.s, .int .i64 x.o, .int .i64 x.p, .int .i64 x.m] 32)).alloc (.cells #[.func (.func 31) #[] #[]] 68)).heap.size (-1) _ SL.out (Nat.le_refl _) HQ.out HI.out).mono ?_; rintro e w1 ⟨rfl, hb2⟩; have B1 := Lib.hid (belowTo BW.out hb2 BW.out.size); have X1 := Lib.hid (oX.out.below hb2); have S1 := Lib.hid (SL.out.below hb2); clear hb2; obtain ⟨x0, x1, x2, x3, _, _⟩ := own4 X1.out) | fail)
  have OXd := Lib.hid X1.out.drew
  have SD := Lib.hid (S1.out.below (Below.refl _ _).drew)
  have BD := Lib.hid B1.out.drew
  obtain ⟨y0, y1, y2, y3, _, _⟩ := own4 OXd.out
  clear oX oA SL
  refine region_H 11 #[false, false, false, false, false, false, false, false, false, false, false] (by kernel_rfl) (by kernel_rfl) (fun w' => w'.cell? ⟨w.heap.size, 0, none⟩ = some (.int .i64 x.s) ∧ w'.cell? ⟨w.heap.size, 1, none⟩ = some (.int .i64 x.o) ∧ w'.cell? ⟨w.heap.size, 2, none⟩ = some (.int .i64 x.p) ∧ w'.cell? ⟨w.heap.size, 3, none⟩ = some (.int .i64 x.m)) (by kernel_rfl) ?x49s (fun hHeld => ?x49r)
  case x49s => exact ⟨y0, y1, y2, y3⟩
  refine wpH_take (i := 0) (some 15) (v := ?x50v) rfl (by kernel_rfl) (by kernel_rfl) (by kernel_rfl) rfl (fun _ _ _ h => h) (Or.inl ⟨by rfl, ?x50y⟩) hHeld ?x50r
  case x50y => (intro w hSw; (try dsimp only at hSw); go_simp; try with_reducible rfl)
  try simp only [Act.put, List.setIfInBounds_toArray, List.set_cons_zero, List.set_cons_succ]
  refine wpH_take (i := 1) (some 16) (v := ?x51v) rfl (by kernel_rfl) (by kernel_rfl) (by kernel_rfl) rfl (fun _ _ _ h => h) (Or.inl ⟨by rfl, ?x51y⟩) hHeld ?x51r
  case x51y => (intro w hSw; (try dsimp only at hSw); go_simp; try with_reducible rfl)
  try simp only [Act.put, List.setIfInBounds_toArray, List.set_cons_zero, List.set_cons_succ]
  refine wpH_take (i := 2) (some 17) (v := ?x52v) rfl (by kernel_rfl) (by kernel_rfl) (by kernel_rfl) rfl (fun _ _ _ h => h) (Or.inl ⟨by rfl, ?x52y⟩) hHeld ?x52r
  case x52y => (intro w hSw; (try dsimp only at hSw); go_simp; try with_reducible rfl)
  try simp only [Act.put, List.setIfInBounds_toArray, List.set_cons_zero, List.set_cons_succ]
  refine wpH_take (i := 3) (some 18) (v := ?x53v) rfl (by kernel_rfl) (by kernel_rfl) (by kernel_rfl) rfl (fun _ _ _ h => h) (Or.inl ⟨by rfl, ?x53y⟩) hHeld ?x53r
  case x53y => (intro w hSw; (try dsimp only at hSw); go_simp; try with_reducible rfl)
  try simp only [Act.put, List.setIfInBounds_toArray, List.set_cons_zero, List.set_cons_succ]
  refine wpH_take (i := 5) (some 20) (v := ?x54v) rfl (by kernel_rfl) (by kernel_rfl) (by kernel_rfl) rfl (fun _ _ _ h => h) (Or.inl ⟨by rfl, ?x54y⟩) hHeld ?x54r
  case x54y => (intro w hSw; (try dsimp only at hSw); go_simp; try with_reducible rfl)
  try simp only [Act.put, List.setIfInBounds_toArray, List.set_cons_zero, List.set_cons_succ]
  refine wpH_take (i := 6) (some 21) (v := ?x55v) rfl (by kernel_rfl) (by kernel_rfl) (by kernel_rfl) rfl (fun _ _ _ h => h) (Or.inl ⟨by rfl, ?x55y⟩) hHeld ?x55r
  case x55y => (intro w hSw; (try dsimp only at hSw); go_simp; try with_reducible rfl)
  try simp only [Act.put, List.setIfInBounds_toArray, List.set_cons_zero, List.set_cons_succ]
  refine wpH_take (i := 7) (some 22) (v := ?x56v) rfl (by kernel_rfl) (by kernel_rfl) (by kernel_rfl) rfl (fun _ _ _ h => h) (Or.inl ⟨by rfl, ?x56y⟩) hHeld ?x56r
  case x56y => (intro w hSw; (try dsimp only at hSw); go_simp; try with_reducible rfl)
  try simp only [Act.put, List.setIfInBounds_toArray, List.set_cons_zero, List.set_cons_succ]
  refine wpH_one (i := 4) (by kernel_rfl) rfl (fun K hK => ?_)
  rw [if_pos (by rfl)]
  go_simp
  have O4 := Lib.hid ((own_at (w := w1) [.int .i64 x.s, .int .i64 x.o, .int .i64 x.p, .int .i64 x.m] 32 rfl).drew)
  have B4 := Lib.hid ((B1.out.alloc B1.out.size (.cells #[.int .i64 x.s, .int .i64 x.o, .int .i64 x.p, .int .i64 x.m] 32)).drew)
  have S4 := Lib.hid ((S1.out.below (belowNew _ (.cells #[.int .i64 x.s, .int .i64 x.o, .int .i64 x.p, .int .i64 x.m] 32))).below (Below.refl _ _).drew)
  have X4 := Lib.hid ((X1.out.alloc (.cells #[.int .i64 x.s, .int .i64 x.o, .int .i64 x.p, .int .i64 x.m] 32)).drew)
  generalize (w1.alloc (.cells #[.int .i64 x.s, .int .i64 x.o, .int .i64 x.p, .int .i64 x.m] 32)).drew = wa at O4 B4 S4 X4 ⊢
  obtain ⟨z0, z1, z2, z3, _, _⟩ := own4 X4.out
  refine hK.out _ _ (⟨z0, z1, z2, z3⟩) ?_
  clear hK K hHeld
  intro hHeld
  try simp only [Act.put, List.setIfInBounds_toArray, List.set_cons_zero, List.set_cons_succ]
  refine wpH_one (i := 8) (by kernel_rfl) rfl (fun K hK => ?_)
  rw [if_pos (by rfl)]
  go_simp
  have O8 := Lib.hid (own_at (w := wa) [.slice none 0 0, .slice (some ⟨w1.heap.size, 0, none⟩) 1 1, .slice none 0 0] 22 rfl)
  have E8 := Lib.hid (O4.out.alloc (.cells #[.slice none 0 0, .slice (some ⟨w1.heap.size, 0, none⟩) 1 1, .slice none 0 0] 22))
  have B8 := Lib.hid (B4.out.alloc B4.out.size (.cells #[.slice none 0 0, .slice (some ⟨w1.heap.size, 0, none⟩) 1 1, .slice none 0 0] 22))
  have S8 := Lib.hid (S4.out.below (belowNew _ (.cells #[.slice none 0 0, .slice (some ⟨w1.heap.size, 0, none⟩) 1 1, .slice none 0 0] 22)))
  have X8 := Lib.hid (X4.out.alloc (.cells #[.slice none 0 0, .slice (some ⟨w1.heap.size, 0, none⟩) 1 1, .slice none 0 0] 22))
  obtain ⟨u0, u1, u2, u3, _, _⟩ := own4 X8.out
  refine hK.out _ _ (⟨u0, u1, u2, u3⟩) ?_
  clear hK K hHeld
  intro hHeld
  try simp only [Act.put, List.setIfInBounds_toArray, List.set_cons_zero, List.set_cons_succ]
  refine wpH_one (i := 9) (by kernel_rfl) rfl (fun K hK => ?_)
  rw [if_pos (by rfl)]
  go_simp
  refine (cat0_u wa.heap.size _ _ _ _ O8.out.lt (O8.out.cell (i := 0) rfl) (O8.out.cell (i := 1) rfl) (O8.out.cell (i := 2) rfl) (slt_new (L := usL) x E8.out) (by simp)).mono ?_
  rintro e w9 ⟨v9, rfl, hown, hbb⟩
  have R9 := Lib.hid (slt_of_own (L := usL) hown)
  have B9 := Lib.hid (belowTo B8.out hbb B8.out.size)
  have X9 := Lib.hid (X8.out.below hbb)
  clear hown hbb
  obtain ⟨q0, q1, q2, q3, _, _⟩ := own4 X9.out
  refine hK.out _ _ (⟨q0, q1, q2, q3⟩) ?_
  clear hK K hHeld
  intro hHeld
  try simp only [Act.put, List.setIfInBounds_toArray, List.set_cons_zero, List.set_cons_succ]
  refine wpH_take (i := 10) (some 6) (v := ?x60v) rfl (by kernel_rfl) (by kernel_rfl) (by kernel_rfl) rfl (fun _ _ _ h => h) (Or.inl ⟨by rfl, ?x60y⟩) hHeld ?x60r
  case x60y => (intro w hSw; (try dsimp only at hSw); go_simp; try with_reducible rfl)
  try simp only [Act.put, List.setIfInBounds_toArray, List.set_cons_zero, List.set_cons_succ]
  refine wpAnyH_done (by kernel_rfl) ?_ _
  go_wp2_with fail
  go_ret
  exact ⟨_, rfl, by exact R9.out, B9.out⟩

theorem ins_u (v : Value) (l : List Us) (x : Us) (w : World) (sl : SlU w v l) (h70 : l.length ≤ 70) : Calls Try.prog 30 #[v, .agg #[.int .i64 x.s, .int .i64 x.o, .int .i64 x.p, .int .i64 x.m], .func (.func 31) #[] #[]] w fun e w' => RetU w (adU x l) e w' := by
  obtain ⟨p, cap, e0, hlc, hcm, hpn⟩ := sl.form l.length rfl
  subst e0
  have hnl := sl.none_len
  cases p with
  | none =>
    obtain rfl := hnl rfl
    obtain rfl := hpn rfl
    exact ins_nil_u [] x w sl h70 rfl rfl
  | some ad =>
    obtain ⟨b, off, fo⟩ := ad
    by_cases hl0 : l = []
    · subst hl0
      exact ins_emp_u b off cap fo [] x w sl h70 rfl hcm rfl
    obtain rfl : fo = none := slt_plain sl (List.length_pos_iff.2 hl0)
    rcases idx_cases (fun d : Us => decide (x.s < d.s)) l with ⟨hi, hany⟩ | ⟨k, r, hk, hq, hi, _, _, hpre⟩
    · rw [adU, insL_none hany]
      rcases Nat.lt_or_ge l.length cap with hlt | hge
      · have := ins_mid_u b off cap l x w sl h70 hlc hcm l.length (Nat.le_refl _) hlt (by rw [if_pos rfl]; exact hi)
        simpa using this
      · obtain rfl : cap = l.length := by omega
        exact ins_end_u b off l x w sl h70 hcm hi
    · rw [adU, insL_some hk hq hpre]
      have hkl := (List.getElem?_eq_some_iff.1 hk).1
      exact ins_mid_u b off cap l x w sl h70 hlc hcm k (by omega) (by omega) (by rw [if_neg (by omega)]; exact hi)

set_option linter.unusedSimpArgs false in
set_option linter.unusedVariables false in
set_option maxRecDepth 100000 in
set_option maxHeartbeats 2000000 in
theorem ins_mid1_g (b off cap : Nat) (l : List Gr) (x : Gr) (w : World) (sl : SlG w (.slice (some ⟨b, off, none⟩) l.length cap) l) (h70 : l.length ≤ 70) (hlc : l.length ≤ cap) (hcm : cap ≤ maxLen) (hkc : l.length < cap) (hi : idxD (fun d : Gr => decide (x.s < d.s)) l = -1) : Calls Try.prog 37 #[.slice (some ⟨b, off, none⟩) l.length cap, .agg #[.int .i64 x.s, .int .i64 x.o, .int .i64 x.p, .int .i64 x.m, .int .i64 x.u], .func (.func 38) #[] #[]] w fun e w' => RetG w (l.take l.length ++ x :: l.drop l.length) e w' := by
  have k0 : (0 : Int) ≤ (l.length : Int) := Int.natCast_nonneg _
  have k1 : (l.length : Int) ≤ (l.length : Int) := by omega
  have k2 : (l.length : Int) ≤ (cap : Int) := by omega
  have k4 : (l.length : Int) ≤ (cap : Int) := by omega
  have k5 : (l.length : Int) ≤ 70 := by omega
  have k6 : (l.length : Int) < (cap : Int) := by omega
  have k7 : ¬ cap = l.length := by omega
  unfold maxLen at hcm
  have BW := Lib.hid (show Below w.heap.size w ((w.alloc (.cells #[.int .i64 x.s, .int .i64 x.o, .int .i64 x.p, .int .i64 x.m, .int .i64 x.u] 34)).alloc (.cells #[.func (.func 38) #[] #[]] 76)) from ((Below.refl _ _).alloc (Nat.le_refl _) _).alloc (by simp) _)
  have SL := Lib.hid (sl.below BW.out)
  have oX := Lib.hid (Own.alloc (own_at (w := w) [.int .i64 x.s, .int .i64 x.o, .int .i64 x.p, .int .i64 x.m, .int .i64 x.u] 34 rfl) (.cells #[.func (.func 38) #[] #[]] 76))
  have oA := Lib.hid (own_at (w := w.alloc (.cells #[.int .i64 x.s, .int .i64 x.o, .int .i64 x.p, .int .i64 x.m, .int .i64 x.u] 34)) (n := w.heap.size + 1) [.func (.func 38) #[] #[]] 76 (by simp))
  have HI := Lib.hid hi
  have HQ := Lib.hid (show ∀ (d : Gr) (wx : World), Below ((w.alloc (.cells #[.int .i64 x.s, .int .i64 x.o, .int .i64 x.p, .int .i64 x.m, .int .i64 x.u] 34)).alloc (.cells #[.func (.func 38) #[] #[]] 76)).heap.size ((w.alloc (.cells #[.int .i64 x.s, .int .i64 x.o, .int .i64 x.p, .int .i64 x.m, .int .i64 x.u] 34)).alloc (.cells #[.func (.func 38) #[] #[]] 76)) wx → Calls Try.prog 66 #[.agg #[.int .i64 d.s, .int .i64 d.o, .int .i64 d.p, .int .i64 d.m, .int .i64 d.u], .pointer (some ⟨(w.heap.size + 1), 0, none⟩), .pointer (some ⟨w.heap.size, 0, none⟩)] wx fun e w' => e = .returned (.bool ((fun d : Gr => decide (x.s < d.s)) d)) ∧ Below wx.heap.size wx w' from fun d wx hbx => insg_any (w.heap.size + 1) w.heap.size x d wx (Nat.lt_of_lt_of_le (by first | omega | (simp; done) | (simp; omega)) hbx.size) (Nat.lt_of_lt_of_le (by first | omega | (simp; done) | (simp; omega)) hbx.size) ((hbx.cell (p := ⟨w.heap.size + 1, 0, none⟩) (by first | omega | (simp; done) | (simp; omega))).trans (oA.out.cell (i := 0) rfl)) ((hbx.cell (p := ⟨w.heap.size, 0, none⟩) (by first | omega | (simp; done) | (simp; omega))).trans (oX.out.cell (i := 0) rfl)) ((hbx.cell (p := ⟨w.heap.size, 1, none⟩) (by first | omega | (simp; done) | (simp; omega))).trans (oX.out.cell (i := 1) rfl)) ((hbx.cell (p := ⟨w.heap.size, 2, none⟩) (by first | omega | (simp; done) | (simp; omega))).trans (oX.out.cell (i := 2) rfl)) ((hbx.cell (p := ⟨w.heap.size, 3, none⟩) (by first | omega | (simp; done) | (simp; omega))).trans (oX.out.cell (i := 3) rfl)) ((hbx.cell (p := ⟨w.heap.size, 4, none⟩) (by first | omega | (simp; done) | (simp; omega))).trans (oX.out.cell (i := 4) rfl)))
  clear hi sl
  go_enter Try.func37, Try.ntmps37
  go_wp2_with (first | (go_at_call 65; refine (ix_insg_lit _ _ (w.heap.size + 1) w.heap.size (fun d : Gr => decide (x.s < d.s)) ((w.alloc (.cells #[.int .i64 x.s, .int .i64 x.o, .int .i64 x.p, .int .i64 x.m, .int .i64 x.u] 34)).alloc (.cells #[.func (.func 38) #[] #[]] 76)).heap.size (-1) _ SL.out (Nat.le_refl _) HQ.out HI.out).mono ?_; rintro e w1 ⟨rfl, hb2⟩; have B1 := Lib.hid (belowTo BW.out hb2 BW.out.size); have X1 := Lib.hid (oX.out.below hb2); have S1 := Lib.hid (SL.out.below hb2); clear hb2; obtain ⟨x0, x1, x2, x3, x4, _, _⟩ := own5 X1.out) | fail)
  have OXd := Lib.hid X1.out.drew
  have SD := Lib.hid (S1.out.below (Below.refl _ _).drew)
  have BD := Lib.hid B1.out.drew
  obtain ⟨y0, y1, y2, y3, y4, _, _⟩ := own5 OXd.out
  clear oX oA SL
  refine region_H 11 #[false, false, false, false, false, false, false, false, false, false, false] (by kernel_rfl) (by kernel_rfl) (fun w' => w'.cell? ⟨w.heap.size, 0, none⟩ = some (.int .i64 x.s) ∧ w'.cell? ⟨w.heap.size, 1, none⟩ = some (.int .i64 x.o) ∧ w'.cell? ⟨w.heap.size, 2, none⟩ = some (.int .i64 x.p) ∧ w'.cell? ⟨w.heap.size, 3, none⟩ = some (.int .i64 x.m) ∧ w'.cell? ⟨w.heap.size, 4, none⟩ = some (.int .i64 x.u)) (by kernel_rfl) ?x61s (fun hHeld => ?x61r)
  case x61s => exact ⟨y0, y1, y2, y3, y4⟩
  refine wpH_take (i := 0) (some 15) (v := ?x62v) rfl (by kernel_rfl) (by kernel_rfl) (by kernel_rfl) rfl (fun _ _ _ h => h) (Or.inl ⟨by rfl, ?x62y⟩) hHeld ?x62r
  case x62y => (intro w hSw; (try dsimp only at hSw); go_simp; try with_reducible rfl)
  try simp only [Act.put, List.setIfInBounds_toArray, List.set_cons_zero, List.set_cons_succ]
  refine wpH_take (i := 1) (some 16) (v := ?x63v) rfl (by kernel_rfl) (by kernel_rfl) (by kernel_rfl) rfl (fun _ _ _ h => h) (Or.inl ⟨by rfl, ?x63y⟩) hHeld ?x63r
  case x63y => (intro w hSw; (try dsimp only at hSw); go_simp; try with_reducible rfl)
  try simp only [Act.put, List.setIfInBounds_toArray, List.set_cons_zero, List.set_cons_succ]
  refine wpH_take (i := 2) (some 17) (v := ?x64v) rfl (by kernel_rfl) (by kernel_rfl) (by kernel_rfl) rfl (fun _ _ _ h => h) (Or.inl ⟨by rfl, ?x64y⟩) hHeld ?x64r
  case x64y => (intro w hSw; (try dsimp only at hSw); go_simp; try with_reducible rfl)
  try simp only [Act.put, List.setIfInBounds_toArray, List.set_cons_zero, List.set_cons_succ]
  refine wpH_take (i := 3) (some 18) (v := ?x65v) rfl (by kernel_rfl) (by kernel_rfl) (by kernel_rfl) rfl (fun _ _ _ h => h) (Or.inl ⟨by rfl, ?x65y⟩) hHeld ?x65r
  case x65y => (intro w hSw; (try dsimp only at hSw); go_simp; try with_reducible rfl)
  try simp only [Act.put, List.setIfInBounds_toArray, List.set_cons_zero, List.set_cons_succ]
  refine wpH_take (i := 5) (some 20) (v := ?x66v) rfl (by kernel_rfl) (by kernel_rfl) (by kernel_rfl) rfl (fun _ _ _ h => h) (Or.inl ⟨by rfl, ?x66y⟩) hHeld ?x66r
  case x66y => (intro w hSw; (try dsimp only at hSw); go_simp; try with_reducible rfl)
  try simp only [Act.put, List.setIfInBounds_toArray, List.set_cons_zero, List.set_cons_succ]
  refine wpH_take (i := 6) (some 21) (v := ?x67v) rfl (by kernel_rfl) (by kernel_rfl) (by kernel_rfl) rfl (fun _ _ _ h => h) (Or.inl ⟨by rfl, ?x67y⟩) hHeld ?x67r
  case x67y => (intro w hSw; (try dsimp only at hSw); go_simp; try with_reducible rfl)
  try simp only [Act.put, List.setIfInBounds_toArray, List.set_cons_zero, List.set_cons_succ]
  refine wpH_take (i := 7) (some 22) (v := ?x68v) rfl (by kernel_rfl) (by kernel_rfl) (by kernel_rfl) rfl (fun _ _ _ h => h) (Or.inl ⟨by rfl, ?x68y⟩) hHeld ?x68r
  case x68y => (intro w hSw; (try dsimp only at hSw); go_simp; try with_reducible rfl)
  try simp only [Act.put, List.setIfInBounds_toArray, List.set_cons_zero, List.set_cons_succ]
  refine wpH_one (i := 4) (by kernel_rfl) rfl (fun K hK => ?_)
  rw [if_pos (by rfl)]
  go_simp
  have O4 := Lib.hid ((own_at (w := w1) [.int .i64 x.s, .int .i64 x.o, .int .i64 x.p, .int .i64 x.m, .int .i64 x.u] 34 rfl).drew)
  have B4 := Lib.hid ((B1.out.alloc B1.out.size (.cells #[.int .i64 x.s, .int .i64 x.o, .int .i64 x.p, .int .i64 x.m, .int .i64 x.u] 34)).drew)
  have S4 := Lib.hid ((S1.out.below (belowNew _ (.cells #[.int .i64 x.s, .int .i64 x.o, .int .i64 x.p, .int .i64 x.m, .int .i64 x.u] 34))).below (Below.refl _ _).drew)
  have X4 := Lib.hid ((X1.out.alloc (.cells #[.int .i64 x.s, .int .i64 x.o, .int .i64 x.p, .int .i64 x.m, .int .i64 x.u] 34)).drew)
  generalize (w1.alloc (.cells #[.int .i64 x.s, .int .i64 x.o, .int .i64 x.p, .int .i64 x.m, .int .i64 x.u] 34)).drew = wa at O4 B4 S4 X4 ⊢
  obtain ⟨z0, z1, z2, z3, z4, _, _⟩ := own5 X4.out
  refine hK.out _ _ (⟨z0, z1, z2, z3, z4⟩) ?_
  clear hK K hHeld
  intro hHeld
  try simp only [Act.put, List.setIfInBounds_toArray, List.set_cons_zero, List.set_cons_succ]
  refine wpH_one (i := 8) (by kernel_rfl) rfl (fun K hK => ?_)
  rw [if_pos (by rfl)]
  go_simp
  have O8 := Lib.hid (own_at (w := wa) [.slice (some ⟨b, off, none⟩) l.length cap, .slice (some ⟨w1.heap.size, 0, none⟩) 1 1, .slice (some ⟨b, off + l.length * 5, none⟩) 0 (cap - l.length)] 23 rfl)
  have E8 := Lib.hid (O4.out.alloc (.cells #[.slice (some ⟨b, off, none⟩) l.length cap, .slice (some ⟨w1.heap.size, 0, none⟩) 1 1, .slice (some ⟨b, off + l.length * 5, none⟩) 0 (cap - l.length)] 23))
  have B8 := Lib.hid (B4.out.alloc B4.out.size (.cells #[.slice (some ⟨b, off, none⟩) l.length cap, .slice (some ⟨w1.heap.size, 0, none⟩) 1 1, .slice (some ⟨b, off + l.length * 5, none⟩) 0 (cap - l.length)] 23))
  have S8 := Lib.hid (S4.out.below (belowNew _ (.cells #[.slice (some ⟨b, off, none⟩) l.length cap, .slice (some ⟨w1.heap.size, 0, none⟩) 1 1, .slice (some ⟨b, off + l.length * 5, none⟩) 0 (cap - l.length)] 23)))
  have X8 := Lib.hid (X4.out.alloc (.cells #[.slice (some ⟨b, off, none⟩) l.length cap, .slice (some ⟨w1.heap.size, 0, none⟩) 1 1, .slice (some ⟨b, off + l.length * 5, none⟩) 0 (cap - l.length)] 23))
  obtain ⟨u0, u1, u2, u3, u4, _, _⟩ := own5 X8.out
  refine hK.out _ _ (⟨u0, u1, u2, u3, u4⟩) ?_
  clear hK K hHeld
  intro hHeld
  try simp only [Act.put, List.setIfInBounds_toArray, List.set_cons_zero, List.set_cons_succ]
  refine wpH_one (i := 9) (by kernel_rfl) rfl (fun K hK => ?_)
  rw [if_pos (by rfl)]
  go_simp
  have FA := Lib.hid (show SlG (wa.alloc (.cells #[.slice (some ⟨b, off, none⟩) l.length cap, .slice (some ⟨w1.heap.size, 0, none⟩) 1 1, .slice (some ⟨b, off + l.length * 5, none⟩) 0 (cap - l.length)] 23)) (.slice (some ⟨b, off, none⟩) l.length cap) (l.take l.length) from S8.out.front (k := l.length) (c := cap) (by omega) (by omega) (Nat.le_refl _))
  have FB := Lib.hid (show SlG (wa.alloc (.cells #[.slice (some ⟨b, off, none⟩) l.length cap, .slice (some ⟨w1.heap.size, 0, none⟩) 1 1, .slice (some ⟨b, off + l.length * 5, none⟩) 0 (cap - l.length)] 23)) (.slice (some ⟨b, off + l.length * 5, none⟩) 0 (cap - l.length)) (l.drop l.length) from slt_n0 (S8.out.back (k := l.length)) (by omega))
  refine (catn_g wa.heap.size _ _ _ l.length 1 0 _ _ _ (l.take l.length) [x] (l.drop l.length) _ O8.out.lt (by first | rfl | (rw [List.length_take]; omega)) rfl (by first | rfl | ((rw [List.length_drop]; omega))) (O8.out.cell (i := 0) rfl) (O8.out.cell (i := 1) rfl) (O8.out.cell (i := 2) rfl) FA.out (slt_new (L := grL) x E8.out) FB.out (by omega) (by omega) (by omega)).mono ?_
  rintro e w9 ⟨v9, rfl, hown, hbb⟩
  have R9 := Lib.hid (slt_of_own (L := grL) hown)
  have B9 := Lib.hid (belowTo B8.out hbb B8.out.size)
  have X9 := Lib.hid (X8.out.below hbb)
  clear hown hbb
  obtain ⟨q0, q1, q2, q3, q4, _, _⟩ := own5 X9.out
  refine hK.out _ _ (⟨q0, q1, q2, q3, q4⟩) ?_
  clear hK K hHeld
  intro hHeld
  try simp only [Act.put, List.setIfInBounds_toArray, List.set_cons_zero, List.set_cons_succ]
  refine wpH_take (i := 10) (some 6) (v := ?x72v) rfl (by kernel_rfl) (by kernel_rfl) (by kernel_rfl) rfl (fun _ _ _ h => h) (Or.inl ⟨by rfl, ?x72y⟩) hHeld ?x72r
  case x72y => (intro w hSw; (try dsimp only at hSw); go_simp; try with_reducible rfl)
  try simp only [Act.put, List.setIfInBounds_toArray, List.set_cons_zero, List.set_cons_succ]
  refine wpAnyH_done (by kernel_rfl) ?_ _
  go_wp2_with fail
  go_ret
  exact ⟨_, rfl, by simpa using R9.out, B9.out⟩

set_option linter.unusedSimpArgs false in
set_option linter.unusedVariables false in
set_option maxRecDepth 100000 in
set_option maxHeartbeats 2000000 in
theorem ins_mid2_g (b off cap : Nat) (l : List Gr) (x : Gr) (w : World) (sl : SlG w (.slice (some ⟨b, off, none⟩) l.length cap) l) (h70 : l.length ≤ 70) (hlc : l.length ≤ cap) (hcm : cap ≤ maxLen) (kk : Nat) (hkl : kk < l.length) (hi : idxD (fun d : Gr => decide (x.s < d.s)) l = (kk : Int)) : Calls Try.prog 37 #[.slice (some ⟨b, off, none⟩) l.length cap, .agg #[.int .i64 x.s, .int .i64 x.o, .int .i64 x.p, .int .i64 x.m, .int .i64 x.u], .func (.func 38) #[] #[]] w fun e w' => RetG w (l.take kk ++ x :: l.drop kk) e w' := by
  have k0 : (0 : Int) ≤ (kk : Int) := Int.natCast_nonneg _
  have k1 : (kk : Int) ≤ (l.length : Int) := by omega
  have k2 : (kk : Int) ≤ (cap : Int) := by omega
  have k4 : (l.length : Int) ≤ (cap : Int) := by omega
  have k5 : (l.length : Int) ≤ 70 := by omega
  have k6 : (kk : Int) < (cap : Int) := by omega
  have k7 : ¬ cap = kk := by omega
  unfold maxLen at hcm
  have BW := Lib.hid (show Below w.heap.size w ((w.alloc (.cells #[.int .i64 x.s, .int .i64 x.o, .int .i64 x.p, .int .i64 x.m, .int .i64 x.u] 34)).alloc (.cells #[.func (.func 38) #[] #[]] 76)) from ((Below.refl _ _).alloc (Nat.le_refl _) _).alloc (by simp) _)
  have SL := Lib.hid (sl.below BW.out)
  have oX := Lib.hid (Own.alloc (own_at (w := w) [.int .i64 x.s, .int .i64 x.o, .int .i64 x.p, .int .i64 x.m, .int .i64 x.u] 34 rfl) (.cells #[.func (.func 38) #[] #[]] 76))
  have oA := Lib.hid (own_at (w := w.alloc (.cells #[.int .i64 x.s, .int .i64 x.o, .int .i64 x.p, .int .i64 x.m, .int .i64 x.u] 34)) (n := w.heap.size + 1) [.func (.func 38) #[] #[]] 76 (by simp))
  have HI := Lib.hid hi
  have HQ := Lib.hid (show ∀ (d : Gr) (wx : World), Below ((w.alloc (.cells #[.int .i64 x.s, .int .i64 x.o, .int .i64 x.p, .int .i64 x.m, .int .i64 x.u] 34)).alloc (.cells #[.func (.func 38) #[] #[]] 76)).heap.size ((w.alloc (.cells #[.int .i64 x.s, .int .i64 x.o, .int .i64 x.p, .int .i64 x.m, .int .i64 x.u] 34)).alloc (.cells #[.func (.func 38) #[] #[]] 76)) wx → Calls Try.prog 66 #[.agg #[.int .i64 d.s, .int .i64 d.o, .int .i64 d.p, .int .i64 d.m, .int .i64 d.u], .pointer (some ⟨(w.heap.size + 1), 0, none⟩), .pointer (some ⟨w.heap.size, 0, none⟩)] wx fun e w' => e = .returned (.bool ((fun d : Gr => decide (x.s < d.s)) d)) ∧ Below wx.heap.size wx w' from fun d wx hbx => insg_any (w.heap.size + 1) w.heap.size x d wx (Nat.lt_of_lt_of_le (by first | omega | (simp; done) | (simp; omega)) hbx.size) (Nat.lt_of_lt_of_le (by first | omega | (simp; done) | (simp; omega)) hbx.size) ((hbx.cell (p := ⟨w.heap.size + 1, 0, none⟩) (by first | omega | (simp; done) | (simp; omega))).trans (oA.out.cell (i := 0) rfl)) ((hbx.cell (p := ⟨w.heap.size, 0, none⟩) (by first | omega | (simp; done) | (simp; omega))).trans (oX.out.cell (i := 0) rfl)) ((hbx.cell (p := ⟨w.heap.size, 1, none⟩) (by first | omega | (simp; done) | (simp; omega))).trans (oX.out.cell (i := 1) rfl)) ((hbx.cell (p := ⟨w.heap.size, 2, none⟩) (by first | omega | (simp; done) | (simp; omega))).trans (oX.out.cell (i := 2) rfl)) ((hbx.cell (p := ⟨w.heap.size, 3, none⟩) (by first | omega | (simp; done) | (simp; omega))).trans (oX.out.cell (i := 3) rfl)) ((hbx.cell (p := ⟨w.heap.size, 4, none⟩) (by first | omega | (simp; done) | (simp; omega))).trans (oX.out.cell (i := 4) rfl)))
  clear hi sl
  go_enter Try.func37, Try.ntmps37
  go_wp2_with (first | (go_at_call 65; refine (ix_insg_lit _ _ (w.heap.size + 1) w.heap.size (fun d : Gr => decide (x.s < d.s)) ((w.alloc (.cells #[.int .i64 x.s, .int .i64 x.o, .int .i64 x.p, .int .i64 x.m, .int .i64 x.u] 34)).alloc (.cells #[.func (.func 38) #[] #[]] 76)).heap.size ((kk : Int)) _ SL.out (Nat.le_refl _) HQ.out HI.out).mono ?_; rintro e w1 ⟨rfl, hb2⟩; have B1 := Lib.hid (belowTo BW.out hb2 BW.out.size); have X1 := Lib.hid (oX.out.below hb2); have S1 := Lib.hid (SL.out.below hb2); clear hb2; obtain ⟨x0, x1, x2, x3, x4, _, _⟩ := own5 X1.out) | fail)
  have OXd := Lib.hid X1.out.drew
  have SD := Lib.hid (S1.out.below (Below.refl _ _).drew)
  have BD := Lib.hid B1.out.drew
  obtain ⟨y0, y1, y2, y3, y4, _, _⟩ := own5 OXd.out
  clear oX oA SL
  refine region_H 11 #[false, false, false, false, false, false, false, false, false, false, false] (by kernel_rfl) (by kernel_rfl) (fun w' => w'.cell? ⟨w.heap.size, 0, none⟩ = some (.int .i64 x.s) ∧ w'.cell? ⟨w.heap.size, 1, none⟩ = some (.int .i64 x.o) ∧ w'.cell? ⟨w.heap.size, 2, none⟩ = some (.int .i64 x.p) ∧ w'.cell? ⟨w.heap.size, 3, none⟩ = some (.int .i64 x.m) ∧ w'.cell? ⟨w.heap.size, 4, none⟩ = some (.int .i64 x.u)) (by kernel_rfl) ?x73s (fun hHeld => ?x73r)
  case x73s => exact ⟨y0, y1, y2, y3, y4⟩
  refine wpH_take (i := 0) (some 15) (v := ?x74v) rfl (by kernel_rfl) (by kernel_rfl) (by kernel_rfl) rfl (fun _ _ _ h => h) (Or.inl ⟨by rfl, ?x74y⟩) hHeld ?x74r
  case x74y => (intro w hSw; (try dsimp only at hSw); go_simp; try with_reducible rfl)
  try simp only [Act.put, List.setIfInBounds_toArray, List.set_cons_zero, List.set_cons_succ]
  refine wpH_take (i := 1) (some 16) (v := ?x75v) rfl (by kernel_rfl) (by kernel_rfl) (by kernel_rfl) rfl (fun _ _ _ h => h) (Or.inl ⟨by rfl, ?x75y⟩) hHeld ?x75r
  case x75y => (intro w hSw; (try dsimp only at hSw); go_simp; try with_reducible rfl)
  try simp only [Act.put, List.setIfInBounds_toArray, List.set_cons_zero, List.set_cons_succ]
  refine wpH_take (i := 2) (some 17) (v := ?x76v) rfl (by kernel_rfl) (by kernel_rfl) (by kernel_rfl) rfl (fun _ _ _ h => h) (Or.inl ⟨by rfl, ?x76y⟩) hHeld ?x76r
  case x76y => (intro w hSw; (try dsimp only at hSw); go_simp; try with_reducible rfl)
  try simp only [Act.put, List.setIfInBounds_toArray, List.set_cons_zero, List.set_cons_succ]
  refine wpH_take (i := 3) (some 18) (v := ?x77v) rfl (by kernel_rfl) (by kernel_rfl) (by kernel_rfl) rfl (fun _ _ _ h => h) (Or.inl ⟨by rfl, ?x77y⟩) hHeld ?x77r
  case x77y => (intro w hSw; (try dsimp only at hSw); go_simp; try with_reducible rfl)
  try simp only [Act.put, List.setIfInBounds_toArray, List.set_cons_zero, List.set_cons_succ]
  refine wpH_take (i := 5) (some 20) (v := ?x78v) rfl (by kernel_rfl) (by kernel_rfl) (by kernel_rfl) rfl (fun _ _ _ h => h) (Or.inl ⟨by rfl, ?x78y⟩) hHeld ?x78r
  case x78y => (intro w hSw; (try dsimp only at hSw); go_simp; try with_reducible rfl)
  try simp only [Act.put, List.setIfInBounds_toArray, List.set_cons_zero, List.set_cons_succ]
  refine wpH_take (i := 6) (some 21) (v := ?x79v) rfl (by kernel_rfl) (by kernel_rfl) (by kernel_rfl) rfl (fun _ _ _ h => h) (Or.inl ⟨by rfl, ?x79y⟩) hHeld ?x79r
  case x79y => (intro w hSw; (try dsimp only at hSw); go_simp; try with_reducible rfl)
  try simp only [Act.put, List.setIfInBounds_toArray, List.set_cons_zero, List.set_cons_succ]
  refine wpH_take (i := 7) (some 22) (v := ?x80v) rfl (by kernel_rfl) (by kernel_rfl) (by kernel_rfl) rfl (fun _ _ _ h => h) (Or.inl ⟨by rfl, ?x80y⟩) hHeld ?x80r
  case x80y => (intro w hSw; (try dsimp only at hSw); go_simp; try with_reducible rfl)
  try simp only [Act.put, List.setIfInBounds_toArray, List.set_cons_zero, List.set_cons_succ]
  refine wpH_one (i := 4) (by kernel_rfl) rfl (fun K hK => ?_)
  rw [if_pos (by rfl)]
  go_simp
  have O4 := Lib.hid ((own_at (w := w1) [.int .i64 x.s, .int .i64 x.o, .int .i64 x.p, .int .i64 x.m, .int .i64 x.u] 34 rfl).drew)
  have B4 := Lib.hid ((B1.out.alloc B1.out.size (.cells #[.int .i64 x.s, .int .i64 x.o, .int .i64 x.p, .int .i64 x.m, .int .i64 x.u] 34)).drew)
  have S4 := Lib.hid ((S1.out.below (belowNew _ (.cells #[.int .i64 x.s, .int .i64 x.o, .int .i64 x.p, .int .i64 x.m, .int .i64 x.u] 34))).below (Below.refl _ _).drew)
  have X4 := Lib.hid ((X1.out.alloc (.cells #[.int .i64 x.s, .int .i64 x.o, .int .i64 x.p, .int .i64 x.m, .int .i64 x.u] 34)).drew)
  generalize (w1.alloc (.cells #[.int .i64 x.s, .int .i64 x.o, .int .i64 x.p, .int .i64 x.m, .int .i64 x.u] 34)).drew = wa at O4 B4 S4 X4 ⊢
  obtain ⟨z0, z1, z2, z3, z4, _, _⟩ := own5 X4.out
  refine hK.out _ _ (⟨z0, z1, z2, z3, z4⟩) ?_
  clear hK K hHeld
  intro hHeld
  try simp only [Act.put, List.setIfInBounds_toArray, List.set_cons_zero, List.set_cons_succ]
  refine wpH_one (i := 8) (by kernel_rfl) rfl (fun K hK => ?_)
  rw [if_pos (by rfl)]
  go_simp
  have O8 := Lib.hid (own_at (w := wa) [.slice (some ⟨b, off, none⟩) kk cap, .slice (some ⟨w1.heap.size, 0, none⟩) 1 1, .slice (some ⟨b, off + kk * 5, none⟩) (l.length - kk) (cap - kk)] 23 rfl)
  have E8 := Lib.hid (O4.out.alloc (.cells #[.slice (some ⟨b, off, none⟩) kk cap, .slice (some ⟨w1.heap.size, 0, none⟩) 1 1, .slice (some ⟨b, off + kk * 5, none⟩) (l.length - kk) (cap - kk)] 23))
  have B8 := Lib.hid (B4.out.alloc B4.out.size (.cells #[.slice (some ⟨b, off, none⟩) kk cap, .slice (some ⟨w1.heap.size, 0, none⟩) 1 1, .slice (some ⟨b, off + kk * 5, none⟩) (l.length - kk) (cap - kk)] 23))
  have S8 := Lib.hid (S4.out.below (belowNew _ (.cells #[.slice (some ⟨b, off, none⟩) kk cap, .slice (some ⟨w1.heap.size, 0, none⟩) 1 1, .slice (some ⟨b, off + kk * 5, none⟩) (l.length - kk) (cap - kk)] 23)))
  have X8 := Lib.hid (X4.out.alloc (.cells #[.slice (some ⟨b, off, none⟩) kk cap, .slice (some ⟨w1.heap.size, 0, none⟩) 1 1, .slice (some ⟨b, off + kk * 5, none⟩) (l.length - kk) (cap - kk)] 23))
  obtain ⟨u0, u1, u2, u3, u4, _, _⟩ := own5 X8.out
  refine hK.out _ _ (⟨u0, u1, u2, u3, u4⟩) ?_
  clear hK K hHeld
  intro hHeld
  try simp only [Act.put, List.setIfInBounds_toArray, List.set_cons_zero, List.set_cons_succ]
  refine wpH_one (i := 9) (by kernel_rfl) rfl (fun K hK => ?_)
  rw [if_pos (by rfl)]
  go_simp
  have FA := Lib.hid (show SlG (wa.alloc (.cells #[.slice (some ⟨b, off, none⟩) kk cap, .slice (some ⟨w1.heap.size, 0, none⟩) 1 1, .slice (some ⟨b, off + kk * 5, none⟩) (l.length - kk) (cap - kk)] 23)) (.slice (some ⟨b, off, none⟩) kk cap) (l.take kk) from S8.out.front (k := kk) (c := cap) (by omega) (by omega) (Nat.le_refl _))
  have FB := Lib.hid (show SlG (wa.alloc (.cells #[.slice (some ⟨b, off, none⟩) kk cap, .slice (some ⟨w1.heap.size, 0, none⟩) 1 1, .slice (some ⟨b, off + kk * 5, none⟩) (l.length - kk) (cap - kk)] 23)) (.slice (some ⟨b, off + kk * 5, none⟩) (l.length - kk) (cap - kk)) (l.drop kk) from S8.out.back (k := kk))
  refine (catn_g wa.heap.size _ _ _ kk 1 (l.length - kk) _ _ _ (l.take kk) [x] (l.drop kk) _ O8.out.lt (by first | rfl | (rw [List.length_take]; omega)) rfl (by first | rfl | (rw [List.length_drop])) (O8.out.cell (i := 0) rfl) (O8.out.cell (i := 1) rfl) (O8.out.cell (i := 2) rfl) FA.out (slt_new (L := grL) x E8.out) FB.out (by omega) (by omega) (by omega)).mono ?_
  rintro e w9 ⟨v9, rfl, hown, hbb⟩
  have R9 := Lib.hid (slt_of_own (L := grL) hown)
  have B9 := Lib.hid (belowTo B8.out hbb B8.out.size)
  have X9 := Lib.hid (X8.out.below hbb)
  clear hown hbb
  obtain ⟨q0, q1, q2, q3, q4, _, _⟩ := own5 X9.out
  refine hK.out _ _ (⟨q0, q1, q2, q3, q4⟩) ?_
  clear hK K hHeld
  intro hHeld
  try simp only [Act.put, List.setIfInBounds_toArray, List.set_cons_zero, List.set_cons_succ]
  refine wpH_take (i := 10) (some 6) (v := ?x84v) rfl (by kernel_rfl) (by kernel_rfl) (by kernel_rfl) rfl (fun _ _ _ h => h) (Or.inl ⟨by rfl, ?x84y⟩) hHeld ?x84r
  case x84y => (intro w hSw; (try dsimp only at hSw); go_simp; try with_reducible rfl)
  try simp only [Act.put, List.setIfInBounds_toArray, List.set_cons_zero, List.set_cons_succ]
  refine wpAnyH_done (by kernel_rfl) ?_ _
  go_wp2_with fail
  go_ret
  exact ⟨_, rfl, by simpa using R9.out, B9.out⟩

set_option linter.unusedSimpArgs false in
set_option linter.unusedVariables false in
set_option maxRecDepth 100000 in
set_option maxHeartbeats 2000000 in
theorem ins_mid_g (b off cap : Nat) (l : List Gr) (x : Gr) (w : World) (sl : SlG w (.slice (some ⟨b, off, none⟩) l.length cap) l) (h70 : l.length ≤ 70) (hlc : l.length ≤ cap) (hcm : cap ≤ maxLen) (kk : Nat) (hkl : kk ≤ l.length) (hkc : kk < cap) (hi : idxD (fun d : Gr => decide (x.s < d.s)) l = if kk = l.length then -1 else (kk : Int)) : Calls Try.prog 37 #[.slice (some ⟨b, off, none⟩) l.length cap, .agg #[.int .i64 x.s, .int .i64 x.o, .int .i64 x.p, .int .i64 x.m, .int .i64 x.u], .func (.func 38) #[] #[]] w fun e w' => RetG w (l.take kk ++ x :: l.drop kk) e w' := by
  have k0 : (0 : Int) ≤ (kk : Int) := Int.natCast_nonneg _
  have k1 : (kk : Int) ≤ (l.length : Int) := by omega
  have k2 : (kk : Int) ≤ (cap : Int) := by omega
  have k4 : (l.length : Int) ≤ (cap : Int) := by omega
  have k5 : (l.length : Int) ≤ 70 := by omega
  have k6 : (kk : Int) < (cap : Int) := by omega
  have k7 : ¬ cap = kk := by omega
  unfold maxLen at hcm
  by_cases hend : kk = l.length
  · rw [if_pos hend] at hi
    subst hend
    exact ins_mid1_g b off cap l x w sl h70 hlc (by unfold maxLen; exact hcm) hkc hi
  · rw [if_neg hend] at hi
    exact ins_mid2_g b off cap l x w sl h70 hlc (by unfold maxLen; exact hcm) kk (by omega) hi

set_option linter.unusedSimpArgs false in
set_option linter.unusedVariables false in
set_option maxRecDepth 100000 in
set_option maxHeartbeats 2000000 in
theorem ins_end_g (b off : Nat) (l : List Gr) (x : Gr) (w : World) (sl : SlG w (.slice (some ⟨b, off, none⟩) l.length l.length) l) (h70 : l.length ≤ 70) (hcm : l.length ≤ maxLen) (hi : idxD (fun d : Gr => decide (x.s < d.s)) l = -1) : Calls Try.prog 37 #[.slice (some ⟨b, off, none⟩) l.length l.length, .agg #[.int .i64 x.s, .int .i64 x.o, .int .i64 x.p, .int .i64 x.m, .int .i64 x.u], .func (.func 38) #[] #[]] w fun e w' => RetG w (l ++ [x]) e w' := by
  have k0 : (0 : Int) ≤ (l.length : Int) := Int.natCast_nonneg _
  have k5 : (l.length : Int) ≤ 70 := by omega
  unfold maxLen at hcm
  have BW := Lib.hid (show Below w.heap.size w ((w.alloc (.cells #[.int .i64 x.s, .int .i64 x.o, .int .i64 x.p, .int .i64 x.m, .int .i64 x.u] 34)).alloc (.cells #[.func (.func 38) #[] #[]] 76)) from ((Below.refl _ _).alloc (Nat.le_refl _) _).alloc (by simp) _)
  have SL := Lib.hid (sl.below BW.out)
  have oX := Lib.hid (Own.alloc (own_at (w := w) [.int .i64 x.s, .int .i64 x.o, .int .i64 x.p, .int .i64 x.m, .int .i64 x.u] 34 rfl) (.cells #[.func (.func 38) #[] #[]] 76))
  have oA := Lib.hid (own_at (w := w.alloc (.cells #[.int .i64 x.s, .int .i64 x.o, .int .i64 x.p, .int .i64 x.m, .int .i64 x.u] 34)) (n := w.heap.size + 1) [.func (.func 38) #[] #[]] 76 (by simp))
  have HI := Lib.hid hi
  have HQ := Lib.hid (show ∀ (d : Gr) (wx : World), Below ((w.alloc (.cells #[.int .i64 x.s, .int .i64 x.o, .int .i64 x.p, .int .i64 x.m, .int .i64 x.u] 34)).alloc (.cells #[.func (.func 38) #[] #[]] 76)).heap.size ((w.alloc (.cells #[.int .i64 x.s, .int .i64 x.o, .int .i64 x.p, .int .i64 x.m, .int .i64 x.u] 34)).alloc (.cells #[.func (.func 38) #[] #[]] 76)) wx → Calls Try.prog 66 #[.agg #[.int .i64 d.s, .int .i64 d.o, .int .i64 d.p, .int .i64 d.m, .int .i64 d.u], .pointer (some ⟨(w.heap.size + 1), 0, none⟩), .pointer (some ⟨w.heap.size, 0, none⟩)] wx fun e w' => e = .returned (.bool ((fun d : Gr => decide (x.s < d.s)) d)) ∧ Below wx.heap.size wx w' from fun d wx hbx => insg_any (w.heap.size + 1) w.heap.size x d wx (Nat.lt_of_lt_of_le (by first | omega | (simp; done) | (simp; omega)) hbx.size) (Nat.lt_of_lt_of_le (by first | omega | (simp; done) | (simp; omega)) hbx.size) ((hbx.cell (p := ⟨w.heap.size + 1, 0, none⟩) (by first | omega | (simp; done) | (simp; omega))).trans (oA.out.cell (i := 0) rfl)) ((hbx.cell (p := ⟨w.heap.size, 0, none⟩) (by first | omega | (simp; done) | (simp; omega))).trans (oX.out.cell (i := 0) rfl)) ((hbx.cell (p := ⟨w.heap.size, 1, none⟩) (by first | omega | (simp; done) | (simp; omega))).trans (oX.out.cell (i := 1) rfl)) ((hbx.cell (p := ⟨w.heap.size, 2, none⟩) (by first | omega | (simp; done) | (simp; omega))).trans (oX.out.cell (i := 2) rfl)) ((hbx.cell (p := ⟨w.heap.size, 3, none⟩) (by first | omega | (simp; done) | (simp; omega))).trans (oX.out.cell (i := 3) rfl)) ((hbx.cell (p := ⟨w.heap.size, 4, none⟩) (by first | omega | (simp; done) | (simp; omega))).trans (oX.out.cell (i := 4) rfl)))
  clear hi sl
  go_enter Try.func37, Try.ntmps37
  go_wp2_with (first | (go_at_call 65; refine (ix_insg_lit _ _ (w.heap.size + 1) w.heap.size (fun d : Gr => decide (x.s < d.s)) ((w.alloc (.cells #[.int .i64 x.s, .int .i64 x.o, .int .i64 x.p, .int .i64 x.m, .int .i64 x.u] 34)).alloc (.cells #[.func (.func 38) #[] #[]] 76)).heap.size (-1) _ SL.out (Nat.le_refl _) HQ.out HI.out).mono ?_; rintro e w1 ⟨rfl, hb2⟩; have B1 := Lib.hid (belowTo BW.out hb2 BW.out.size); have X1 := Lib.hid (oX.out.below hb2); have S1 := Lib.hid (SL.out.below hb2); clear hb2; obtain ⟨x0, x1, x2, x3, x4, _, _⟩ := own5 X1.out) | fail)
  have OXd := Lib.hid X1.out.drew
  have SD := Lib.hid (S1.out.below (Below.refl _ _).drew)
  have BD := Lib.hid B1.out.drew
  obtain ⟨y0, y1, y2, y3, y4, _, _⟩ := own5 OXd.out
  clear oX oA SL
  refine region_H 11 #[false, false, false, false, false, false, false, false, false, false, false] (by kernel_rfl) (by kernel_rfl) (fun w' => w'.cell? ⟨w.heap.size, 0, none⟩ = some (.int .i64 x.s) ∧ w'.cell? ⟨w.heap.size, 1, none⟩ = some (.int .i64 x.o) ∧ w'.cell? ⟨w.heap.size, 2, none⟩ = some (.int .i64 x.p) ∧ w'.cell? ⟨w.heap.size, 3, none⟩ = some (.int .i64 x.m) ∧ w'.cell? ⟨w.heap.size, 4, none⟩ = some (.int .i64 x.u)) (by kernel_rfl) ?x85s (fun hHeld => ?x85r)
  case x85s => exact ⟨y0, y1, y2, y3, y4⟩
  refine wpH_take (i := 0) (some 15) (v := ?x86v) rfl (by kernel_rfl) (by kernel_rfl) (by kernel_rfl) rfl (fun _ _ _ h => h) (Or.inl ⟨by rfl, ?x86y⟩) hHeld ?x86r
  case x86y => (intro w hSw; (try dsimp only at hSw); go_simp; try with_reducible rfl)
  try simp only [Act.put, List.setIfInBounds_toArray, List.set_cons_zero, List.set_cons_succ]
  refine wpH_take (i := 1) (some 16) (v := ?x87v) rfl (by kernel_rfl) (by kernel_rfl) (by kernel_rfl) rfl (fun _ _ _ h => h) (Or.inl ⟨by rfl, ?x87y⟩) hHeld ?x87r
  case x87y => (intro w hSw; (try dsimp only at hSw); go_simp; try with_reducible rfl)
  try simp only [Act.put, List.setIfInBounds_toArray, List.set_cons_zero, List.set_cons_succ]
  refine wpH_take (i := 2) (some 17) (v := ?x88v) rfl (by kernel_rfl) (by kernel_rfl) (by kernel_rfl) rfl (fun _ _ _ h => h) (Or.inl ⟨by rfl, ?x88y⟩) hHeld ?x88r
  case x88y => (intro w hSw; (try dsimp only at hSw); go_simp; try with_reducible rfl)
  try simp only [Act.put, List.setIfInBounds_toArray, List.set_cons_zero, List.set_cons_succ]
  refine wpH_take (i := 3) (some 18) (v := ?x89v) rfl (by kernel_rfl) (by kernel_rfl) (by kernel_rfl) rfl (fun _ _ _ h => h) (Or.inl ⟨by rfl, ?x89y⟩) hHeld ?x89r
  case x89y => (intro w hSw; (try dsimp only at hSw); go_simp; try with_reducible rfl)
  try simp only [Act.put, List.setIfInBounds_toArray, List.set_cons_zero, List.set_cons_succ]
  refine wpH_take (i := 5) (some 20) (v := ?x90v) rfl (by kernel_rfl) (by kernel_rfl) (by kernel_rfl) rfl (fun _ _ _ h => h) (Or.inl ⟨by rfl, ?x90y⟩) hHeld ?x90r
  case x90y => (intro w hSw; (try dsimp only at hSw); go_simp; try with_reducible rfl)
  try simp only [Act.put, List.setIfInBounds_toArray, List.set_cons_zero, List.set_cons_succ]
  refine wpH_take (i := 6) (some 21) (v := ?x91v) rfl (by kernel_rfl) (by kernel_rfl) (by kernel_rfl) rfl (fun _ _ _ h => h) (Or.inl ⟨by rfl, ?x91y⟩) hHeld ?x91r
  case x91y => (intro w hSw; (try dsimp only at hSw); go_simp; try with_reducible rfl)
  try simp only [Act.put, List.setIfInBounds_toArray, List.set_cons_zero, List.set_cons_succ]
  refine wpH_take (i := 7) (some 22) (v := ?x92v) rfl (by kernel_rfl) (by kernel_rfl) (by kernel_rfl) rfl (fun _ _ _ h => h) (Or.inl ⟨by rfl, ?x92y⟩) hHeld ?x92r
  case x92y => (intro w hSw; (try dsimp only at hSw); go_simp; try with_reducible rfl)
  try simp only [Act.put, List.setIfInBounds_toArray, List.set_cons_zero, List.set_cons_succ]
  refine wpH_one (i := 4) (by kernel_rfl) rfl (fun K hK => ?_)
  rw [if_pos (by rfl)]
  go_simp
  have O4 := Lib.hid ((own_at (w := w1) [.int .i64 x.s, .int .i64 x.o, .int .i64 x.p, .int .i64 x.m, .int .i64 x.u] 34 rfl).drew)
  have B4 := Lib.hid ((B1.out.alloc B1.out.size (.cells #[.int .i64 x.s, .int .i64 x.o, .int .i64 x.p, .int .i64 x.m, .int .i64 x.u] 34)).drew)
  have S4 := Lib.hid ((S1.out.below (belowNew _ (.cells #[.int .i64 x.s, .int .i64 x.o, .int .i64 x.p, .int .i64 x.m, .int .i64 x.u] 34))).below (Below.refl _ _).drew)
  have X4 := Lib.hid ((X1.out.alloc (.cells #[.int .i64 x.s, .int .i64 x.o, .int .i64 x.p, .int .i64 x.m, .int .i64 x.u] 34)).drew)
  generalize (w1.alloc (.cells #[.int .i64 x.s, .int .i64 x.o, .int .i64 x.p, .int .i64 x.m, .int .i64 x.u] 34)).drew = wa at O4 B4 S4 X4 ⊢
  obtain ⟨z0, z1, z2, z3, z4, _, _⟩ := own5 X4.out
  refine hK.out _ _ (⟨z0, z1, z2, z3, z4⟩) ?_
  clear hK K hHeld
  intro hHeld
  try simp only [Act.put, List.setIfInBounds_toArray, List.set_cons_zero, List.set_cons_succ]
  refine wpH_one (i := 8) (by kernel_rfl) rfl (fun K hK => ?_)
  rw [if_pos (by rfl)]
  go_simp
  have O8 := Lib.hid (own_at (w := wa) [.slice (some ⟨b, off, none⟩) l.length l.length, .slice (some ⟨w1.heap.size, 0, none⟩) 1 1, .slice (some ⟨b, off, none⟩) 0 0] 23 rfl)
  have E8 := Lib.hid (O4.out.alloc (.cells #[.slice (some ⟨b, off, none⟩) l.length l.length, .slice (some ⟨w1.heap.size, 0, none⟩) 1 1, .slice (some ⟨b, off, none⟩) 0 0] 23))
  have B8 := Lib.hid (B4.out.alloc B4.out.size (.cells #[.slice (some ⟨b, off, none⟩) l.length l.length, .slice (some ⟨w1.heap.size, 0, none⟩) 1 1, .slice (some ⟨b, off, none⟩) 0 0] 23))
  have S8 := Lib.hid (S4.out.below (belowNew _ (.cells #[.slice (some ⟨b, off, none⟩) l.length l.length, .slice (some ⟨w1.heap.size, 0, none⟩) 1 1, .slice (some ⟨b, off, none⟩) 0 0] 23)))
  have X8 := Lib.hid (X4.out.alloc (.cells #[.slice (some ⟨b, off, none⟩) l.length l.length, .slice (some ⟨w1.heap.size, 0, none⟩) 1 1, .slice (some ⟨b, off, none⟩) 0 0] 23))
  obtain ⟨u0, u1, u2, u3, u4, _, _⟩ := own5 X8.out
  refine hK.out _ _ (⟨u0, u1, u2, u3, u4⟩) ?_
  clear hK K hHeld
  intro hHeld
  try simp only [Act.put, List.setIfInBounds_toArray, List.set_cons_zero, List.set_cons_succ]
  refine wpH_one (i := 9) (by kernel_rfl) rfl (fun K hK => ?_)
  rw [if_pos (by rfl)]
  go_simp
  have FA := Lib.hid (show SlG (wa.alloc (.cells #[.slice (some ⟨b, off, none⟩) l.length l.length, .slice (some ⟨w1.heap.size, 0, none⟩) 1 1, .slice (some ⟨b, off, none⟩) 0 0] 23)) (.slice (some ⟨b, off, none⟩) l.length l.length) l from S8.out)
  have FB := Lib.hid (show SlG (wa.alloc (.cells #[.slice (some ⟨b, off, none⟩) l.length l.length, .slice (some ⟨w1.heap.size, 0, none⟩) 1 1, .slice (some ⟨b, off, none⟩) 0 0] 23)) (.slice (some ⟨b, off, none⟩) 0 0) ([] : List Gr) from slt_none0 (L := grL) _ (some ⟨b, off, none⟩))
  refine (catn_g wa.heap.size _ _ _ l.length 1 0 _ _ _ l [x] ([] : List Gr) _ O8.out.lt (by first | rfl | (rw [List.length_take]; omega)) rfl (by first | rfl | (rw [List.length_drop])) (O8.out.cell (i := 0) rfl) (O8.out.cell (i := 1) rfl) (O8.out.cell (i := 2) rfl) FA.out (slt_new (L := grL) x E8.out) FB.out (by omega) (by omega) (by omega)).mono ?_
  rintro e w9 ⟨v9, rfl, hown, hbb⟩
  have R9 := Lib.hid (slt_of_own (L := grL) hown)
  have B9 := Lib.hid (belowTo B8.out hbb B8.out.size)
  have X9 := Lib.hid (X8.out.below hbb)
  clear hown hbb
  obtain ⟨q0, q1, q2, q3, q4, _, _⟩ := own5 X9.out
  refine hK.out _ _ (⟨q0, q1, q2, q3, q4⟩) ?_
  clear hK K hHeld
  intro hHeld
  try simp only [Act.put, List.setIfInBounds_toArray, List.set_cons_zero, List.set_cons_succ]
  refine wpH_take (i := 10) (some 6) (v := ?x96v) rfl (by kernel_rfl) (by kernel_rfl) (by kernel_rfl) rfl (fun _ _ _ h => h) (Or.inl ⟨by rfl, ?x96y⟩) hHeld ?x96r
  case x96y => (intro w hSw; (try dsimp only at hSw); go_simp; try with_reducible rfl)
  try simp only [Act.put, List.setIfInBounds_toArray, List.set_cons_zero, List.set_cons_succ]
  refine wpAnyH_done (by kernel_rfl) ?_ _
  go_wp2_with fail
  go_ret
  exact ⟨_, rfl, by simpa using R9.out, B9.out⟩

set_option linter.unusedSimpArgs false in
set_option linter.unusedVariables false in
set_option maxRecDepth 100000 in
set_option maxHeartbeats 2000000 in
theorem ins_emp_g (b off cap : Nat) (fo : Option Nat) (l : List Gr) (x : Gr) (w : World) (sl : SlG w (.slice (some ⟨b, off, fo⟩) 0 cap) l) (h70 : l.length ≤ 70) (hl : l = []) (hcm : cap ≤ maxLen) (hi : idxD (fun d : Gr => decide (x.s < d.s)) l = -1) : Calls Try.prog 37 #[.slice (some ⟨b, off, fo⟩) 0 cap, .agg #[.int .i64 x.s, .int .i64 x.o, .int .i64 x.p, .int .i64 x.m, .int .i64 x.u], .func (.func 38) #[] #[]] w fun e w' => RetG w ([x]) e w' := by
  subst hl
  have k0 : (0 : Int) ≤ (cap : Int) := Int.natCast_nonneg _
  unfold maxLen at hcm
  have BW := Lib.hid (show Below w.heap.size w ((w.alloc (.cells #[.int .i64 x.s, .int .i64 x.o, .int .i64 x.p, .int .i64 x.m, .int .i64 x.u] 34)).alloc (.cells #[.func (.func 38) #[] #[]] 76)) from ((Below.refl _ _).alloc (Nat.le_refl _) _).alloc (by simp) _)
  have SL := Lib.hid (sl.below BW.out)
  have oX := Lib.hid (Own.alloc (own_at (w := w) [.int .i64 x.s, .int .i64 x.o, .int .i64 x.p, .int .i64 x.m, .int .i64 x.u] 34 rfl) (.cells #[.func (.func 38) #[] #[]] 76))
  have oA := Lib.hid (own_at (w := w.alloc (.cells #[.int .i64 x.s, .int .i64 x.o, .int .i64 x.p, .int .i64 x.m, .int .i64 x.u] 34)) (n := w.heap.size + 1) [.func (.func 38) #[] #[]] 76 (by simp))
  have HI := Lib.hid hi
  have HQ := Lib.hid (show ∀ (d : Gr) (wx : World), Below ((w.alloc (.cells #[.int .i64 x.s, .int .i64 x.o, .int .i64 x.p, .int .i64 x.m, .int .i64 x.u] 34)).alloc (.cells #[.func (.func 38) #[] #[]] 76)).heap.size ((w.alloc (.cells #[.int .i64 x.s, .int .i64 x.o, .int .i64 x.p, .int .i64 x.m, .int .i64 x.u] 34)).alloc (.cells #[.func (.func 38) #[] #[]] 76)) wx → Calls Try.prog 66 #[.agg #[.int .i64 d.s, .int .i64 d.o, .int .i64 d.p, .int .i64 d.m, .int .i64 d.u], .pointer (some ⟨(w.heap.size + 1), 0, none⟩), .pointer (some ⟨w.heap.size, 0, none⟩)] wx fun e w' => e = .returned (.bool ((fun d : Gr => decide (x.s < d.s)) d)) ∧ Below wx.heap.size wx w' from fun d wx hbx => insg_any (w.heap.size + 1) w.heap.size x d wx (Nat.lt_of_lt_of_le (by first | omega | (simp; done) | (simp; omega)) hbx.size) (Nat.lt_of_lt_of_le (by first | omega | (simp; done) | (simp; omega)) hbx.size) ((hbx.cell (p := ⟨w.heap.size + 1, 0, none⟩) (by first | omega | (simp; done) | (simp; omega))).trans (oA.out.cell (i := 0) rfl)) ((hbx.cell (p := ⟨w.heap.size, 0, none⟩) (by first | omega | (simp; done) | (simp; omega))).trans (oX.out.cell (i := 0) rfl)) ((hbx.cell (p := ⟨w.heap.size, 1, none⟩) (by first | omega | (simp; done) | (simp; omega))).trans (oX.out.cell (i := 1) rfl)) ((hbx.cell (p := ⟨w.heap.size, 2, none⟩) (by first | omega | (simp; done) | (simp; omega))).trans (oX.out.cell (i := 2) rfl)) ((hbx.cell (p := ⟨w.heap.size, 3, none⟩) (by first | omega | (simp; done) | (simp; omega))).trans (oX.out.cell (i := 3) rfl)) ((hbx.cell (p := ⟨w.heap.size, 4, none⟩) (by first | omega | (simp; done) | (simp; omega))).trans (oX.out.cell (i := 4) rfl)))
  clear hi sl
  go_enter Try.func37, Try.ntmps37
  go_wp2_with (first | (go_at_call 65; refine (ix_insg_lit _ _ (w.heap.size + 1) w.heap.size (fun d : Gr => decide (x.s < d.s)) ((w.alloc (.cells #[.int .i64 x.s, .int .i64 x.o, .int .i64 x.p, .int .i64 x.m, .int .i64 x.u] 34)).alloc (.cells #[.func (.func 38) #[] #[]] 76)).heap.size (-1) _ SL.out (Nat.le_refl _) HQ.out HI.out).mono ?_; rintro e w1 ⟨rfl, hb2⟩; have B1 := Lib.hid (belowTo BW.out hb2 BW.out.size); have X1 := Lib.hid (oX.out.below hb2); have S1 := Lib.hid (SL.out.below hb2); clear hb2; obtain ⟨x0, x1, x2, x3, x4, _, _⟩ := own5 X1.out) | fail)
  have OXd := Lib.hid X1.out.drew
  have SD := Lib.hid (S1.out.below (Below.refl _ _).drew)
  have BD := Lib.hid B1.out.drew
  obtain ⟨y0, y1, y2, y3, y4, _, _⟩ := own5 OXd.out
  clear oX oA SL
  refine region_H 11 #[false, false, false, false, false, false, false, false, false, false, false] (by kernel_rfl) (by kernel_rfl) (fun w' => w'.cell? ⟨w.heap.size, 0, none⟩ = some (.int .i64 x.s) ∧ w'.cell? ⟨w.heap.size, 1, none⟩ = some (.int .i64 x.o) ∧ w'.cell? ⟨w.heap.size, 2, none⟩ = some (.int .i64 x.p) ∧ w'.cell? ⟨w.heap.size, 3, none⟩ = some (.int .i64 x.m) ∧ w'.cell? ⟨w.heap.size, 4, none⟩ = some (.int .i64 x.u)) (by kernel_rfl) ?x97s (fun hHeld => ?x97r)
  case x97s => exact ⟨y0, y1, y2, y3, y4⟩
  refine wpH_take (i := 0) (some 15) (v := ?x98v) rfl (by kernel_rfl) (by kernel_rfl) (by kernel_rfl) rfl (fun _ _ _ h => h) (Or.inl ⟨by rfl, ?x98y⟩) hHeld ?x98r
  case x98y => (intro w hSw; (try dsimp only at hSw); go_simp; try with_reducible rfl)
  try simp only [Act.put, List.setIfInBounds_toArray, List.set_cons_zero, List.set_cons_succ]
  refine wpH_take (i := 1) (some 16) (v := ?x99v) rfl (by kernel_rfl) (by kernel_rfl) (by kernel_rfl) rfl (fun _ _ _ h => h) (Or.inl ⟨by rfl, ?x99y⟩) hHeld ?x99r
  case x99y => (intro w hSw; (try dsimp only at hSw); go_simp; try with_reducible rfl)
  try simp only [Act.put, List.setIfInBounds_toArray, List.set_cons_zero, List.set_cons_succ]
  refine wpH_take (i := 2) (some 17) (v := ?x100v) rfl (by kernel_rfl) (by kernel_rfl) (by kernel_rfl) rfl (fun _ _ _ h => h) (Or.inl ⟨by rfl, ?x100y⟩) hHeld ?x100r
  case x100y => (intro w hSw; (try dsimp only at hSw); go_simp; try with_reducible rfl)
  try simp only [Act.put, List.setIfInBounds_toArray, List.set_cons_zero, List.set_cons_succ]
  refine wpH_take (i := 3) (some 18) (v := ?x101v) rfl (by kernel_rfl) (by kernel_rfl) (by kernel_rfl) rfl (fun _ _ _ h => h) (Or.inl ⟨by rfl, ?x101y⟩) hHeld ?x101r
  case x101y => (intro w hSw; (try dsimp only at hSw); go_simp; try with_reducible rfl)
  try simp only [Act.put, List.setIfInBounds_toArray, List.set_cons_zero, List.set_cons_succ]
  refine wpH_take (i := 5) (some 20) (v := ?x102v) rfl (by kernel_rfl) (by kernel_rfl) (by kernel_rfl) rfl (fun _ _ _ h => h) (Or.inl ⟨by rfl, ?x102y⟩) hHeld ?x102r
  case x102y => (intro w hSw; (try dsimp only at hSw); go_simp; try with_reducible rfl)
  try simp only [Act.put, List.setIfInBounds_toArray, List.set_cons_zero, List.set_cons_succ]
  refine wpH_take (i := 6) (some 21) (v := ?x103v) rfl (by kernel_rfl) (by kernel_rfl) (by kernel_rfl) rfl (fun _ _ _ h => h) (Or.inl ⟨by rfl, ?x103y⟩) hHeld ?x103r
  case x103y => (intro w hSw; (try dsimp only at hSw); go_simp; try with_reducible rfl)
  try simp only [Act.put, List.setIfInBounds_toArray, List.set_cons_zero, List.set_cons_succ]
  refine wpH_take (i := 7) (some 22) (v := ?x104v) rfl (by kernel_rfl) (by kernel_rfl) (by kernel_rfl) rfl (fun _ _ _ h => h) (Or.inl ⟨by rfl, ?x104y⟩) hHeld ?x104r
  case x104y => (intro w hSw; (try dsimp only at hSw); go_simp; try with_reducible rfl)
  try simp only [Act.put, List.setIfInBounds_toArray, List.set_cons_zero, List.set_cons_succ]
  refine wpH_one (i := 4) (by kernel_rfl) rfl (fun K hK => ?_)
  rw [if_pos (by rfl)]
  go_simp
  have O4 := Lib.hid ((own_at (w := w1) [.int .i64 x.s, .int .i64 x.o, .int .i64 x.p, .int .i64 x.m, .int .i64 x.u] 34 rfl).drew)
  have B4 := Lib.hid ((B1.out.alloc B1.out.size (.cells #[.int .i64 x.s, .int .i64 x.o, .int .i64 x.p, .int .i64 x.m, .int .i64 x.u] 34)).drew)
  have S4 := Lib.hid ((S1.out.below (belowNew _ (.cells #[.int .i64 x.s, .int .i64 x.o, .int .i64 x.p, .int .i64 x.m, .int .i64 x.u] 34))).below (Below.refl _ _).drew)
  have X4 := Lib.hid ((X1.out.alloc (.cells #[.int .i64 x.s, .int .i64 x.o, .int .i64 x.p, .int .i64 x.m, .int .i64 x.u] 34)).drew)
  generalize (w1.alloc (.cells #[.int .i64 x.s, .int .i64 x.o, .int .i64 x.p, .int .i64 x.m, .int .i64 x.u] 34)).drew = wa at O4 B4 S4 X4 ⊢
  obtain ⟨z0, z1, z2, z3, z4, _, _⟩ := own5 X4.out
  refine hK.out _ _ (⟨z0, z1, z2, z3, z4⟩) ?_
  clear hK K hHeld
  intro hHeld
  try simp only [Act.put, List.setIfInBounds_toArray, List.set_cons_zero, List.set_cons_succ]
  refine wpH_one (i := 8) (by kernel_rfl) rfl (fun K hK => ?_)
  rw [if_pos (by rfl)]
  go_simp
  have O8 := Lib.hid (own_at (w := wa) [.slice (some ⟨b, off, fo⟩) 0 cap, .slice (some ⟨w1.heap.size, 0, none⟩) 1 1, .slice (some ⟨b, off, fo⟩) 0 cap] 23 rfl)
  have E8 := Lib.hid (O4.out.alloc (.cells #[.slice (some ⟨b, off, fo⟩) 0 cap, .slice (some ⟨w1.heap.size, 0, none⟩) 1 1, .slice (some ⟨b, off, fo⟩) 0 cap] 23))
  have B8 := Lib.hid (B4.out.alloc B4.out.size (.cells #[.slice (some ⟨b, off, fo⟩) 0 cap, .slice (some ⟨w1.heap.size, 0, none⟩) 1 1, .slice (some ⟨b, off, fo⟩) 0 cap] 23))
  have S8 := Lib.hid (S4.out.below (belowNew _ (.cells #[.slice (some ⟨b, off, fo⟩) 0 cap, .slice (some ⟨w1.heap.size, 0, none⟩) 1 1, .slice (some ⟨b, off, fo⟩) 0 cap] 23)))
  have X8 := Lib.hid (X4.out.alloc (.cells #[.slice (some ⟨b, off, fo⟩) 0 cap, .slice (some ⟨w1.heap.size, 0, none⟩) 1 1, .slice (some ⟨b, off, fo⟩) 0 cap] 23))
  obtain ⟨u0, u1, u2, u3, u4, _, _⟩ := own5 X8.out
  refine hK.out _ _ (⟨u0, u1, u2, u3, u4⟩) ?_
  clear hK K hHeld
  intro hHeld
  try simp only [Act.put, List.setIfInBounds_toArray, List.set_cons_zero, List.set_cons_succ]
  refine wpH_one (i := 9) (by kernel_rfl) rfl (fun K hK => ?_)
  rw [if_pos (by rfl)]
  go_simp
  have FA := Lib.hid (show SlG (wa.alloc (.cells #[.slice (some ⟨b, off, fo⟩) 0 cap, .slice (some ⟨w1.heap.size, 0, none⟩) 1 1, .slice (some ⟨b, off, fo⟩) 0 cap] 23)) (.slice (some ⟨b, off, fo⟩) 0 cap) ([] : List Gr) from S8.out)
  have FB := Lib.hid (show SlG (wa.alloc (.cells #[.slice (some ⟨b, off, fo⟩) 0 cap, .slice (some ⟨w1.heap.size, 0, none⟩) 1 1, .slice (some ⟨b, off, fo⟩) 0 cap] 23)) (.slice (some ⟨b, off, fo⟩) 0 cap) ([] : List Gr) from S8.out)
  refine (catn_g wa.heap.size _ _ _ 0 1 0 _ _ _ ([] : List Gr) [x] ([] : List Gr) _ O8.out.lt (by first | rfl | (rw [List.length_take]; omega)) rfl (by first | rfl | (rw [List.length_drop])) (O8.out.cell (i := 0) rfl) (O8.out.cell (i := 1) rfl) (O8.out.cell (i := 2) rfl) FA.out (slt_new (L := grL) x E8.out) FB.out (by omega) (by omega) (by omega)).mono ?_
  rintro e w9 ⟨v9, rfl, hown, hbb⟩
  have R9 := Lib.hid (slt_of_own (L := grL) hown)
  have B9 := Lib.hid (belowTo B8.out hbb B8.out.size)
  have X9 := Lib.hid (X8.out.below hbb)
  clear hown hbb
  obtain ⟨q0, q1, q2, q3, q4, _, _⟩ := own5 X9.out
  refine hK.out _ _ (⟨q0, q1, q2, q3, q4⟩) ?_
  clear hK K hHeld
  intro hHeld
  try simp only [Act.put, List.setIfInBounds_toArray, List.set_cons_zero, List.set_cons_succ]
  refine wpH_take (i := 10) (some 6) (v := ?x108v) rfl (by kernel_rfl) (by kernel_rfl) (by kernel_rfl) rfl (fun _ _ _ h => h) (Or.inl ⟨by rfl, ?x108y⟩) hHeld ?x108r
  case x108y => (intro w hSw; (try dsimp only at hSw); go_simp; try with_reducible rfl)
  try simp only [Act.put, List.setIfInBounds_toArray, List.set_cons_zero, List.set_cons_succ]
  refine wpAnyH_done (by kernel_rfl) ?_ _
  go_wp2_with fail
  go_ret
  exact ⟨_, rfl, by simpa using R9.out, B9.out⟩

set_option linter.unusedSimpArgs false in
set_option linter.unusedVariables false in
set_option maxRecDepth 100000 in
set_option maxHeartbeats 2000000 in
theorem ins_nil_g  (l : List Gr) (x : Gr) (w : World) (sl : SlG w (.slice none 0 0) l) (h70 : l.length ≤ 70) (hl : l = []) (hi : idxD (fun d : Gr => decide (x.s < d.s)) l = -1) : Calls Try.prog 37 #[.slice none 0 0, .agg #[.int .i64 x.s, .int .i64 x.o, .int .i64 x.p, .int .i64 x.m, .int .i64 x.u], .func (.func 38) #[] #[]] w fun e w' => RetG w ([x]) e w' := by
  subst hl
  have BW := Lib.hid (show Below w.heap.size w ((w.alloc (.cells #[.int .i64 x.s, .int .i64 x.o, .int .i64 x.p, .int .i64 x.m, .int .i64 x.u] 34)).alloc (.cells #[.func (.func 38) #[] #[]] 76)) from ((Below.refl _ _).alloc (Nat.le_refl _) _).alloc (by simp) _)
  have SL := Lib.hid (sl.below BW.out)
  have oX := Lib.hid (Own.alloc (own_at (w := w) [.int .i64 x.s, .int .i64 x.o, .int .i64 x.p, .int .i64 x.m, .int .i64 x.u] 34 rfl) (.cells #[.func (.func 38) #[] #[]] 76))
  have oA := Lib.hid (own_at (w := w.alloc (.cells #[.int .i64 x.s, .int .i64 x.o, .int .i64 x.p, .int .i64 x.m, .int .i64 x.u] 34)) (n := w.heap.size + 1) [.func (.func 38) #[] #[]] 76 (by simp))
  have HI := Lib.hid hi
  have HQ := Lib.hid (show ∀ (d : Gr) (wx : World), Below ((w.alloc (.cells #[.int .i64 x.s, .int .i64 x.o, .int .i64 x.p, .int .i64 x.m, .int .i64 x.u] 34)).alloc (.cells #[.func (.func 38) #[] #[]] 76)).heap.size ((w.alloc (.cells #[.int .i64 x.s, .int .i64 x.o, .int .i64 x.p, .int .i64 x.m, .int .i64 x.u] 34)).alloc (.cells #[.func (.func 38) #[] #[]] 76)) wx → Calls Try.prog 66 #[.agg #[.int .i64 d.s, .int .i64 d.o, .int .i64 d.p, .int .i64 d.m, .int .i64 d.u], .pointer (some ⟨(w.heap.size + 1), 0, none⟩), .pointer (some ⟨w.heap.size, 0, none⟩)] wx fun e w' => e = .returned (.bool ((fun d : Gr => decide (x.s < d.s)) d)) ∧ Below wx.heap.size wx w' from fun d wx hbx => insg_any (w.heap.size + 1) w.heap.size x d wx (Nat.lt_of_lt_of_le (by first | omega | (simp; done) | (simp; omega)) hbx.size) (Nat.lt_of_lt_of_le (by first | omega | (simp; done) | (simp; omega)) hbx.size) ((hbx.cell (p := ⟨w.heap.size + 1, 0, none⟩) (by first | omega | (simp; done) | (simp; omega))).trans (oA.out.cell (i := 0) rfl)) ((hbx.cell (p := ⟨w.heap.size, 0, none⟩) (by first | omega | (simp; done) | (simp; omega))).trans (oX.out.cell (i := 0) rfl)) ((hbx.cell (p := ⟨w.heap.size, 1, none⟩) (by first | omega | (simp; done) | (simp; omega))).trans (oX.out.cell (i := 1) rfl)) ((hbx.cell (p := ⟨w.heap.size, 2, none⟩) (by first | omega | (simp; done) | (simp; omega))).trans (oX.out.cell (i := 2) rfl)) ((hbx.cell (p := ⟨w.heap.size, 3, none⟩) (by first | omega | (simp; done) | (simp; omega))).trans (oX.out.cell (i := 3) rfl)) ((hbx.cell (p := ⟨w.heap.size, 4, none⟩) (by first | omega | (simp; done) | (simp; omega))).trans (oX.out.cell (i := 4) rfl)))
  clear hi sl
  go_enter Try.func37, Try.ntmps37
  go_wp2_with (first | (go_at_call 65; refine (ix_insg_lit _ _ (w.heap.size + 1) w.heap.size (fun d : Gr => decide (x.s < d.s)) ((w.alloc (.cells #[.int .i64 x.s, .int .i64 x.o, .int .i64 x.p, .int .i64 x.m, .int .i64 x.u] 34)).alloc (.cells #[.func (.func 38) #[] #[]] 76)).heap.size (-1) _ SL.out (Nat.le_refl _) HQ.out HI.out).mono ?_; rintro e w1 ⟨rfl, hb2⟩; have B1 := Lib.hid (belowTo BW.out hb2 BW.out.size); have X1 := Lib.hid (oX.out.below hb2); have S1 := Lib.hid (SL.out.below hb2); clear hb2; obtain ⟨x0, x1, x2, x3, x4, _, _⟩ := own5 X1.out) | fail)
  have OXd := Lib.hid X1.out.drew
  have SD := Lib.hid (S1.out.below (Below.refl _ _).drew)
  have BD := Lib.hid B1.out.drew
  obtain ⟨y0, y1, y2, y3, y4, _, _⟩ := own5 OXd.out
  clear oX oA SL
  refine region_H 11 #[false, false, false, false, false, false, false, false, false, false, false] (by kernel_rfl) (by kernel_rfl) (fun w' => w'.cell? ⟨w.heap.size, 0, none⟩ = some (.int .i64 x.s) ∧ w'.cell? ⟨w.heap.size, 1, none⟩ = some (.int .i64 x.o) ∧ w'.cell? ⟨w.heap.size, 2, none⟩ = some (.int .i64 x.p) ∧ w'.cell? ⟨w.heap.size, 3, none⟩ = some (.int .i64 x.m) ∧ w'.cell? ⟨w.heap.size, 4, none⟩ = some (.int .i64 x.u)) (by kernel_rfl) ?x109s (fun hHeld => ?x109r)
  case x109s => exact ⟨y0, y1, y2, y3, y4⟩
  refine wpH_take (i := 0) (some 15) (v := ?x110v) rfl (by kernel_rfl) (by kernel_rfl) (by kernel_rfl) rfl (fun _ _ _ h => h) (Or.inl ⟨by rfl, ?x110y⟩) hHeld ?x110r
  case x110y => (intro w hSw; (try dsimp only at hSw); go_simp; try with_reducible rfl)
  try simp only [Act.put, List.setIfInBounds_toArray, List.set_cons_zero, List.set_cons_succ]
  refine wpH_take (i := 1) (some 16) (v := ?x111v) rfl (by kernel_rfl) (by kernel_rfl) (by kernel_rfl) rfl (fun _ _ _ h => h) (Or.inl ⟨by rfl, ?x111y⟩) hHeld ?x111r
  case x111y => (intro w hSw; (try dsimp only at hSw); go_simp; try with_reducible rfl)
  try simp only [Act.put, List.setIfInBounds_toArray, List.set_cons_zero, List.set_cons_succ]
  refine wpH_take (i := 2) (some 17) (v := ?x112v) rfl (by kernel_rfl) (by kernel_rfl) (by kernel_rfl) rfl (fun _ _ _ h => h) (Or.inl ⟨by rfl, ?x112y⟩) hHeld ?x112r
  case x112y => (intro w hSw; (try dsimp only at hSw); go_simp; try with_reducible rfl)
  try simp only [Act.put, List.setIfInBounds_toArray, List.set_cons_zero, List.set_cons_succ]
  refine wpH_take (i := 3) (some 18) (v := ?x113v) rfl (by kernel_rfl) (by kernel_rfl) (by kernel_rfl) rfl (fun _ _ _ h => h) (Or.inl ⟨by rfl, ?x113y⟩) hHeld ?x113r
  case x113y => (intro w hSw; (try dsimp only at hSw); go_simp; try with_reducible rfl)
  try simp only [Act.put, List.setIfInBounds_toArray, List.set_cons_zero, List.set_cons_succ]
  refine wpH_take (i := 5) (some 20) (v := ?x114v) rfl (by kernel_rfl) (by kernel_rfl) (by kernel_rfl) rfl (fun _ _ _ h => h) (Or.inl ⟨by rfl, ?x114y⟩) hHeld ?x114r
  case x114y => (intro w hSw; (try dsimp only at hSw); go_simp; try with_reducible rfl)
  try simp only [Act.put, List.setIfInBounds_toArray, List.set_cons_zero, List.set_cons_succ]
  refine wpH_take (i := 6) (some 21) (v := ?x115v) rfl (by kernel_rfl) (by kernel_rfl) (by kernel_rfl) rfl (fun _ _ _ h => h) (Or.inl ⟨by rfl, ?x115y⟩) hHeld ?x115r
  case x115y => (intro w hSw; (try dsimp only at hSw); go_simp; try with_reducible rfl)
  try simp only [Act.put, List.setIfInBounds_toArray, List.set_cons_zero, List.set_cons_succ]
  refine wpH_take (i := 7) (some 22) (v := ?x116v) rfl (by kernel_rfl) (by kernel_rfl) (by kernel_rfl) rfl (fun _ _ _ h => h) (Or.inl ⟨by rfl, ?x116y⟩) hHeld ?x116r
  case x116y => (intro w hSw; (try dsimp only at hSw); go_simp; try with_reducible rfl)
  try simp only [Act.put, List.setIfInBounds_toArray, List.set_cons_zero, List.set_cons_succ]
  refine wpH_one (i := 4) (by kernel_rfl) rfl (fun K hK => ?_)
  rw [if_pos (by rfl)]
  go_simp
  have O4 := Lib.hid ((own_at (w := w1) [.int .i64 x.s, .int .i64 x.o, .int .i64 x.p, .int .i64 x.m, .int .i64 x.u] 34 rfl).drew)
  have B4 := Lib.hid ((B1.out.alloc B1.out.size (.cells #[.int .i64 x.s, .int .i64 x.o, .int .i64 x.p, .int .i64 x.m, .int .i64 x.u] 34)).drew)
  have S4 := Lib.hid ((S1.out.below (belowNew _ (.cells #[.int .i64 x.s, .int .i64 x.o, .int .i64 x.p, .int .i64 x.m, .int .i64 x.u] 34))).below (Below.refl _ _).drew)
  have X4 := Lib.hid ((X1.out.alloc (.cells #[.int .i64 x.s, .int .i64 x.o, .int .i64 x.p, .int .i64 x.m, .int .i64 x.u] 34)).drew)
  generalize (w1.alloc (.cells #[.int .i64 x.s, .int .i64 x.o, .int .i64 x.p, .int .i64 x.m, .int .i64 x.u] 34)).drew = wa at O4 B4 S4 X4 ⊢
  obtain ⟨z0, z1, z2, z3, z4, _, _⟩ := own5 X4.out
  refine hK.out _ _ (⟨z0, z1, z2, z3, z4⟩) ?_
  clear hK K hHeld
  intro hHeld
  try simp only [Act.put, List.setIfInBounds_toArray, List.set_cons_zero, List.set_cons_succ]
  refine wpH_one (i := 8) (by kernel_rfl) rfl (fun K hK => ?_)
  rw [if_pos (by rfl)]
  go_simp
  have O8 := Lib.hid (own_at (w := wa) [.slice none 0 0, .slice (some ⟨w1.heap.size, 0, none⟩) 1 1, .slice none 0 0] 23 rfl)
  have E8 := Lib.hid (O4.out.alloc (.cells #[.slice none 0 0, .slice (some ⟨w1.heap.size, 0, none⟩) 1 1, .slice none 0 0] 23))
  have B8 := Lib.hid (B4.out.alloc B4.out.size (.cells #[.slice none 0 0, .slice (some ⟨w1.heap.size, 0, none⟩) 1 1, .slice none 0 0] 23))
  have S8 := Lib.hid (S4.out.below (belowNew _ (.cells #[.slice none 0 0, .slice (some ⟨w1.heap.size, 0, none⟩) 1 1, .slice none 0 0] 23)))
  have X8 := Lib.hid (X4.out.alloc (.cells #[.slice none 0 0, .slice (some ⟨w1.heap.size, 0, none⟩) 1 1, .slice none 0 0] 23))
  obtain ⟨u0, u1, u2, u3, u4, _, _⟩ := own5 X8.out
  refine hK.out _ _ (⟨u0, u1, u2, u3, u4⟩) ?_
  clear hK K hHeld
  intro hHeld
  try simp only [Act.put, List.setIfInBounds_toArray, List.set_cons_zero, List.set_cons_succ]
  refine wpH_one (i := 9) (by kernel_rfl) rfl (fun K hK => ?_)
  rw [if_pos (by rfl)]
  go_simp
  refine (cat0_g wa.heap.size _ _ _ _ O8.out.lt (O8.out.cell (i := 0) rfl) (O8.out.cell (i := 1) rfl) (O8.out.cell (i := 2) rfl) (slt_new (L := grL) x E8.out) (by simp)).mono ?_
  rintro e w9 ⟨v9, rfl, hown, hbb⟩
  have R9 := Lib.hid (slt_of_own (L := grL) hown)
  have B9 := Lib.hid (belowTo B8.out hbb B8.out.size)
  have X9 := Lib.hid (X8.out.below hbb)
  clear hown hbb
  obtain ⟨q0, q1, q2, q3, q4, _, _⟩ := own5 X9.out
  refine hK.out _ _ (⟨q0, q1, q2, q3, q4⟩) ?_
  clear hK K hHeld
  intro hHeld
  try simp only [Act.put, List.setIfInBounds_toArray, List.set_cons_zero, List.set_cons_succ]
  refine wpH_take (i := 10) (some 6) (v := ?x120v) rfl (by kernel_rfl) (by kernel_rfl) (by kernel_rfl) rfl (fun _ _ _ h => h) (Or.inl ⟨by rfl, ?x120y⟩) hHeld ?x120r
  case x120y => (intro w hSw; (try dsimp only at hSw); go_simp; try with_reducible rfl)
  try simp only [Act.put, List.setIfInBounds_toArray, List.set_cons_zero, List.set_cons_succ]
  refine wpAnyH_done (by kernel_rfl) ?_ _
  go_wp2_with fail
  go_ret
  exact ⟨_, rfl, by exact R9.out, B9.out⟩

theorem ins_g (v : Value) (l : List Gr) (x : Gr) (w : World) (sl : SlG w v l) (h70 : l.length ≤ 70) : Calls Try.prog 37 #[v, .agg #[.int .i64 x.s, .int .i64 x.o, .int .i64 x.p, .int .i64 x.m, .int .i64 x.u], .func (.func 38) #[] #[]] w fun e w' => RetG w (adG x l) e w' := by
  obtain ⟨p, cap, e0, hlc, hcm, hpn⟩ := sl.form l.length rfl
  subst e0
  have hnl := sl.none_len
  cases p with
  | none =>
    obtain rfl := hnl rfl
    obtain rfl := hpn rfl
    exact ins_nil_g [] x w sl h70 rfl rfl
  | some ad =>
    obtain ⟨b, off, fo⟩ := ad
    by_cases hl0 : l = []
    · subst hl0
      exact ins_emp_g b off cap fo [] x w sl h70 rfl hcm rfl
    obtain rfl : fo = none := slt_plain sl (List.length_pos_iff.2 hl0)
    rcases idx_cases (fun d : Gr => decide (x.s < d.s)) l with ⟨hi, hany⟩ | ⟨k, r, hk, hq, hi, _, _, hpre⟩
    · rw [adG, insL_none hany]
      rcases Nat.lt_or_ge l.length cap with hlt | hge
      · have := ins_mid_g b off cap l x w sl h70 hlc hcm l.length (Nat.le_refl _) hlt (by rw [if_pos rfl]; exact hi)
        simpa using this
      · obtain rfl : cap = l.length := by omega
        exact ins_end_g b off l x w sl h70 hcm hi
    · rw [adG, insL_some hk hq hpre]
      have hkl := (List.getElem?_eq_some_iff.1 hk).1
      exact ins_mid_g b off cap l x w sl h70 hlc hcm k (by omega) (by omega) (by rw [if_neg (by omega)]; exact hi)

end Go.Proofs.Ytdmadnoijhmbcaa
