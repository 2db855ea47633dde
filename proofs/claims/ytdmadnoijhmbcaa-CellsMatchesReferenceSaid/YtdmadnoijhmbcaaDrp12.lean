/- Drop and Expire. -/
import Derived.Test.YtdmadnoijhmbcaaWth12
namespace Go.Proofs.Ytdmadnoijhmbcaa
open Go.RowKit

theorem SlT.slc {α : Type} {L : Lay α} {w : World} {v : Value} {l : List α} (h : SlT L w v l) : ∃ p n c, v = .slice p n c := by
  obtain ⟨p, cap, h1, _⟩ := h
  exact ⟨p, _, cap, h1⟩
/-- A table is returned. -/
def TblP (w : World) (us : List Us) (gs : List Gr) (ks : List Ak) (e : Ending) (w' : World) : Prop := ∃ vu vg va, e = .returned (.agg #[vu, vg, va]) ∧ SlU w' vu us ∧ SlG w' vg gs ∧ SlA w' va ks ∧ Below w.heap.size w w'
theorem far3 {w : World} {b b' o : Nat} {x y z : Value} (h : b' ≠ b) : (((w.setCell ⟨b', 0, none⟩ x).setCell ⟨b', 1, none⟩ y).setCell ⟨b', 2, none⟩ z).cell? ⟨b, o, none⟩ = w.cell? ⟨b, o, none⟩ := by
  rw [World.cell?_setCell_far _ _ _ _ (by simpa using h), World.cell?_setCell_far _ _ _ _ (by simpa using h), World.cell?_setCell_far _ _ _ _ (by simpa using h)]
/-- A layout whose cells are numbers. -/
def NumL {α : Type} (L : Lay α) : Prop := ∀ a, ∀ u ∈ L.f a, ∃ n, u = .int .i64 n
theorem numU : NumL usL := fun a u h => by
  have h' : u ∈ a.cells := h
  simp only [Us.cells, List.mem_cons, List.not_mem_nil, or_false] at h'
  rcases h' with rfl | rfl | rfl | rfl <;> exact ⟨_, rfl⟩
theorem numG : NumL grL := fun a u h => by
  have h' : u ∈ a.cells := h
  simp only [Gr.cells, List.mem_cons, List.not_mem_nil, or_false] at h'
  rcases h' with rfl | rfl | rfl | rfl | rfl <;> exact ⟨_, rfl⟩
theorem numA : NumL akL := fun a u h => by
  have h' : u ∈ a.cells := h
  simp only [Ak.cells, List.mem_cons, List.not_mem_nil, or_false] at h'
  rcases h' with rfl | rfl | rfl <;> exact ⟨_, rfl⟩
/-- A slice of numbers does not lie in a block of other things: it reads as before when only that block changes. -/
theorem SlT.apart {α : Type} {L : Lay α} {w w' : World} {v : Value} {l : List α} {b : Nat} {cs : List Value} {t : TypeId} (h : SlT L w v l) (hN : NumL L) (o : Own w b cs t) (hn : ∀ c ∈ cs, ∀ k n, c ≠ .int k n) (hs : w.heap.size ≤ w'.heap.size)
    (hw : ∀ b', b' ≠ b → b' < w.heap.size → w'.heap[b']? = w.heap[b']?) : SlT L w' v l := by
  obtain ⟨p, cap, h1, h2, h3, h4, h5⟩ := h
  refine ⟨p, cap, h1, h2, h3, h4, fun i cs' hi => ?_⟩
  obtain ⟨b', off, e, hlt, hc⟩ := h5 i cs' hi
  refine ⟨b', off, e, Nat.lt_of_lt_of_le hlt hs, fun j x hx => ?_⟩
  have h0 := hc j x hx
  have hne : b' ≠ b := fun e => by
    subst e
    rw [List.getElem?_map] at hi
    cases ha : l[i]? with
    | none => rw [ha] at hi; cases hi
    | some a =>
      rw [ha] at hi
      obtain rfl : L.f a = cs' := by simpa using hi
      obtain ⟨n, rfl⟩ := hN a x (List.mem_of_getElem? hx)
      simp only [World.cell?, show w.heap[b']? = _ from o] at h0
      have h9 : cs[off + i * L.k + j]? = some (.int .i64 n) := by simpa using h0
      exact hn _ (List.mem_of_getElem? h9) _ _ rfl
  rw [← h0]
  exact World.cell?_of_block (a := ⟨b', _, none⟩) (hw b' hne hlt)
theorem set3_block {w : World} {b b' : Nat} {x y z : Value} (h : b' ≠ b) : (((w.setCell ⟨b, 0, none⟩ x).setCell ⟨b, 1, none⟩ y).setCell ⟨b, 2, none⟩ z).heap[b']? = w.heap[b']? := by
  rw [Below.heap_setCell _ ⟨b, 2, none⟩ z b' h, Below.heap_setCell _ ⟨b, 1, none⟩ y b' h, Below.heap_setCell _ ⟨b, 0, none⟩ x b' h]
theorem set3_size {w : World} {b : Nat} {x y z : Value} : w.heap.size ≤ (((w.setCell ⟨b, 0, none⟩ x).setCell ⟨b, 1, none⟩ y).setCell ⟨b, 2, none⟩ z).heap.size := by simp
theorem SlT.set3 {α : Type} {L : Lay α} {w : World} {v : Value} {l : List α} {b : Nat} {p1 p2 p3 : Option Addr} {n1 n2 n3 c1 c2 c3 : Nat} {t : TypeId} (h : SlT L w v l) (hN : NumL L) (o : Own w b [.slice p1 n1 c1, .slice p2 n2 c2, .slice p3 n3 c3] t) (x y z : Value) :
    SlT L (((w.setCell ⟨b, 0, none⟩ x).setCell ⟨b, 1, none⟩ y).setCell ⟨b, 2, none⟩ z) v l :=
  h.apart hN o (fun c hc k n e => by
    simp only [List.mem_cons, List.not_mem_nil, or_false] at hc
    rcases hc with rfl | rfl | rfl <;> cases e) set3_size (fun b' hne _ => set3_block hne)
theorem below_set3 {B b : Nat} {a w : World} {x y z : Value} (h : Below B a w) (hb : B ≤ b) : Below B a (((w.setCell ⟨b, 0, none⟩ x).setCell ⟨b, 1, none⟩ y).setCell ⟨b, 2, none⟩ z) := belowSet' (belowSet' (belowSet' h _ _ _ hb) _ _ _ hb) _ _ _ hb
theorem own_set3 {w : World} {b : Nat} {c0 c1 c2 x y z : Value} {t : TypeId} (h : Own w b [c0, c1, c2] t) : Own (((w.setCell ⟨b, 0, none⟩ x).setCell ⟨b, 1, none⟩ y).setCell ⟨b, 2, none⟩ z) b [x, y, z] t := ((h.set 0 x).set 1 y).set 2 z

set_option linter.unusedSimpArgs false in
set_option linter.unusedVariables false in
set_option maxRecDepth 100000 in
set_option maxHeartbeats 2000000 in
theorem drop_any (vu vg va : Value) (us : List Us) (gs : List Gr) (ks : List Ak) (zs zo : Int) (w : World) (su : SlU w vu us) (sg : SlG w vg gs) (sa : SlA w va ks) (u70 : us.length ≤ 70) (g70 : gs.length ≤ 70) (k70 : ks.length ≤ 70) : Calls Try.prog 21 #[.agg #[vu, vg, va], .agg #[.int .i64 zs, .int .i64 zo]] w fun e w' => TblP w (us.filter (fun d => !(d.s == zs && d.o == zo))) (gs.filter (fun d => !(d.s == zs && d.o == zo))) (ks.filter (fun d => !(d.s == zs && d.o == zo))) e w' := by
  have SU := Lib.hid su
  have SG := Lib.hid sg
  have SA := Lib.hid sa
  clear su sg sa
  go_enter Try.func21, Try.ntmps21
  go_wp2_with fail
  have OTx := Lib.hid ((((own_at (w := w) (n := w.heap.size) [vu, vg, va] 26 (by rfl)).alloc (.cells #[.int .i64 zs, .int .i64 zo] 30)).alloc (.cells #[.slice none 0 0, .slice none 0 0, .slice none 0 0] 26)))
  have OCx := Lib.hid (((own_at (w := (w.alloc (.cells #[vu, vg, va] 26))) (n := w.heap.size + 1) [.int .i64 zs, .int .i64 zo] 30 (by simp)).alloc (.cells #[.slice none 0 0, .slice none 0 0, .slice none 0 0] 26)))
  have ORx := Lib.hid ((own_at (w := ((w.alloc (.cells #[vu, vg, va] 26)).alloc (.cells #[.int .i64 zs, .int .i64 zo] 30))) (n := w.heap.size + 1 + 1) [.slice none 0 0, .slice none 0 0, .slice none 0 0] 26 (by simp)))
  have BBx := Lib.hid (((((Below.refl w.heap.size w).alloc (by simp) (.cells #[vu, vg, va] 26)).alloc (by simp) (.cells #[.int .i64 zs, .int .i64 zo] 30)).alloc (by simp; omega) (.cells #[.slice none 0 0, .slice none 0 0, .slice none 0 0] 26)))
  have SUx := Lib.hid (SU.out.below BBx.out)
  have SGx := Lib.hid (SG.out.below BBx.out)
  have SAx := Lib.hid (SA.out.below BBx.out)
  change Code.wp _ _ _ _ (((w.alloc (.cells #[vu, vg, va] 26)).alloc (.cells #[.int .i64 zs, .int .i64 zo] 30)).alloc (.cells #[.slice none 0 0, .slice none 0 0, .slice none 0 0] 26))
  generalize (((w.alloc (.cells #[vu, vg, va] 26)).alloc (.cells #[.int .i64 zs, .int .i64 zo] 30)).alloc (.cells #[.slice none 0 0, .slice none 0 0, .slice none 0 0] 26)) = W at OTx OCx ORx BBx SUx SGx SAx ⊢
  have OT0 := Lib.hid (OTx.out.drew)
  have OC0 := Lib.hid (OCx.out.drew)
  have OR0 := Lib.hid (ORx.out.drew)
  have BD := Lib.hid (Below.refl W.heap.size W).drew
  have BB0 := Lib.hid (BBx.out.drew)
  have SU0 := Lib.hid (SUx.out.below BD.out)
  have SG0 := Lib.hid (SGx.out.below BD.out)
  have SA0 := Lib.hid (SAx.out.below BD.out)
  clear OTx OCx ORx BBx SUx SGx SAx BD SU SG SA
  obtain ⟨t00, t01, t02, _, _⟩ := own3 OT0.out
  obtain ⟨c00, c01, _, _⟩ := own2 OC0.out
  obtain ⟨r00, r01, r02, _, _⟩ := own3 OR0.out
  refine region_H 14 #[false, false, false, false, false, false, false, false, false, false, false, false, false, false] (by kernel_rfl) (by kernel_rfl) (fun w' => w'.cell? ⟨w.heap.size, 0, none⟩ = some (vu) ∧ w'.cell? ⟨w.heap.size, 1, none⟩ = some (vg) ∧ w'.cell? ⟨w.heap.size, 2, none⟩ = some (va)) (by kernel_rfl) ?x1s (fun hHeld => ?x1r)
  case x1s => exact ⟨t00, t01, t02⟩
  refine wpH_take (i := 0) (some 5) (v := ?x2v) rfl (by kernel_rfl) (by kernel_rfl) (by kernel_rfl) rfl (fun _ _ _ h => h) (Or.inl ⟨by rfl, ?x2y⟩) hHeld ?x2r
  case x2y => (intro w hSw; (try dsimp only at hSw); go_simp; try with_reducible rfl)
  try simp only [Act.put, List.setIfInBounds_toArray, List.set_cons_zero, List.set_cons_succ]
  refine wpH_take (i := 1) (some 6) (v := ?x3v) rfl (by kernel_rfl) (by kernel_rfl) (by kernel_rfl) rfl (fun _ _ _ h => h) (Or.inl ⟨by rfl, ?x3y⟩) hHeld ?x3r
  case x3y => (intro w hSw; (try dsimp only at hSw); go_simp; try with_reducible rfl)
  try simp only [Act.put, List.setIfInBounds_toArray, List.set_cons_zero, List.set_cons_succ]
  refine wpH_take (i := 2) (some 7) (v := ?x4v) rfl (by kernel_rfl) (by kernel_rfl) (by kernel_rfl) rfl (fun _ _ _ h => h) (Or.inl ⟨by rfl, ?x4y⟩) hHeld ?x4r
  case x4y => (intro w hSw; (try dsimp only at hSw); go_simp; try with_reducible rfl)
  try simp only [Act.put, List.setIfInBounds_toArray, List.set_cons_zero, List.set_cons_succ]
  refine wpH_take (i := 4) (some 9) (v := ?x5v) rfl (by kernel_rfl) (by kernel_rfl) (by kernel_rfl) rfl (fun _ _ _ h => h) (Or.inl ⟨by rfl, ?x5y⟩) hHeld ?x5r
  case x5y => (intro w hSw; (try dsimp only at hSw); go_simp; try with_reducible rfl)
  try simp only [Act.put, List.setIfInBounds_toArray, List.set_cons_zero, List.set_cons_succ]
  refine wpH_take (i := 5) (some 10) (v := ?x6v) rfl (by kernel_rfl) (by kernel_rfl) (by kernel_rfl) rfl (fun _ _ _ h => h) (Or.inl ⟨by rfl, ?x6y⟩) hHeld ?x6r
  case x6y => (intro w hSw; (try dsimp only at hSw); go_simp; try with_reducible rfl)
  try simp only [Act.put, List.setIfInBounds_toArray, List.set_cons_zero, List.set_cons_succ]
  refine wpH_take (i := 6) (some 11) (v := ?x7v) rfl (by kernel_rfl) (by kernel_rfl) (by kernel_rfl) rfl (fun _ _ _ h => h) (Or.inl ⟨by rfl, ?x7y⟩) hHeld ?x7r
  case x7y => (intro w hSw; (try dsimp only at hSw); go_simp; try with_reducible rfl)
  try simp only [Act.put, List.setIfInBounds_toArray, List.set_cons_zero, List.set_cons_succ]
  refine wpH_take (i := 8) (some 13) (v := ?x8v) rfl (by kernel_rfl) (by kernel_rfl) (by kernel_rfl) rfl (fun _ _ _ h => h) (Or.inl ⟨by rfl, ?x8y⟩) hHeld ?x8r
  case x8y => (intro w hSw; (try dsimp only at hSw); go_simp; try with_reducible rfl)
  try simp only [Act.put, List.setIfInBounds_toArray, List.set_cons_zero, List.set_cons_succ]
  refine wpH_take (i := 9) (some 14) (v := ?x9v) rfl (by kernel_rfl) (by kernel_rfl) (by kernel_rfl) rfl (fun _ _ _ h => h) (Or.inl ⟨by rfl, ?x9y⟩) hHeld ?x9r
  case x9y => (intro w hSw; (try dsimp only at hSw); go_simp; try with_reducible rfl)
  try simp only [Act.put, List.setIfInBounds_toArray, List.set_cons_zero, List.set_cons_succ]
  refine wpH_take (i := 10) (some 15) (v := ?x10v) rfl (by kernel_rfl) (by kernel_rfl) (by kernel_rfl) rfl (fun _ _ _ h => h) (Or.inl ⟨by rfl, ?x10y⟩) hHeld ?x10r
  case x10y => (intro w hSw; (try dsimp only at hSw); go_simp; try with_reducible rfl)
  try simp only [Act.put, List.setIfInBounds_toArray, List.set_cons_zero, List.set_cons_succ]
  refine wpH_one (i := 3) (by kernel_rfl) rfl (fun K hK => ?_)
  rw [if_pos (by rfl)]
  go_simp
  refine (wth_dru vu us (w.heap.size + 1) zs zo _ SU0.out (by omega) OC0.out.lt (OC0.out.cell (i := 0) rfl) (OC0.out.cell (i := 1) rfl)).mono ?_
  rintro e w1 ⟨xu, rfl, hs, hbb⟩
  have XU1 := Lib.hid (hs)
  obtain ⟨pxu, nxu, cxu, f0⟩ := XU1.out.slc
  subst f0
  have OT1 := Lib.hid (OT0.out.below hbb)
  have OC1 := Lib.hid (OC0.out.below hbb)
  have OR1 := Lib.hid (OR0.out.below hbb)
  have SU1 := Lib.hid (SU0.out.below hbb)
  have SG1 := Lib.hid (SG0.out.below hbb)
  have SA1 := Lib.hid (SA0.out.below hbb)
  have BB1 := Lib.hid (belowTo BB0.out hbb BB0.out.size)
  clear hbb hs
  obtain ⟨t10, t11, t12, _, _⟩ := own3 OT1.out
  obtain ⟨c10, c11, _, _⟩ := own2 OC1.out
  obtain ⟨r10, r11, r12, _, _⟩ := own3 OR1.out
  refine hK.out _ _ (⟨t10, t11, t12⟩) ?_
  clear hK K hHeld
  intro hHeld
  try simp only [Act.put, List.setIfInBounds_toArray, List.set_cons_zero, List.set_cons_succ]
  refine wpH_one (i := 7) (by kernel_rfl) rfl (fun K hK => ?_)
  rw [if_pos (by rfl)]
  go_simp
  refine (wth_drg vg gs (w.heap.size + 1) zs zo _ SG1.out (by omega) OC1.out.lt (OC1.out.cell (i := 0) rfl) (OC1.out.cell (i := 1) rfl)).mono ?_
  rintro e w2 ⟨xg, rfl, hs, hbb⟩
  have XG2 := Lib.hid (hs)
  obtain ⟨pxg, nxg, cxg, f0⟩ := XG2.out.slc
  subst f0
  have OT2 := Lib.hid (OT1.out.below hbb)
  have OC2 := Lib.hid (OC1.out.below hbb)
  have OR2 := Lib.hid (OR1.out.below hbb)
  have SU2 := Lib.hid (SU1.out.below hbb)
  have SG2 := Lib.hid (SG1.out.below hbb)
  have SA2 := Lib.hid (SA1.out.below hbb)
  have XU2 := Lib.hid (XU1.out.below hbb)
  have BB2 := Lib.hid (belowTo BB1.out hbb BB1.out.size)
  clear hbb hs
  obtain ⟨t20, t21, t22, _, _⟩ := own3 OT2.out
  obtain ⟨c20, c21, _, _⟩ := own2 OC2.out
  obtain ⟨r20, r21, r22, _, _⟩ := own3 OR2.out
  refine hK.out _ _ (⟨t20, t21, t22⟩) ?_
  clear hK K hHeld
  intro hHeld
  try simp only [Act.put, List.setIfInBounds_toArray, List.set_cons_zero, List.set_cons_succ]
  refine wpH_one (i := 11) (by kernel_rfl) rfl (fun K hK => ?_)
  rw [if_pos (by rfl)]
  go_simp
  refine (wth_dra va ks (w.heap.size + 1) zs zo _ SA2.out (by omega) OC2.out.lt (OC2.out.cell (i := 0) rfl) (OC2.out.cell (i := 1) rfl)).mono ?_
  rintro e w3 ⟨xa, rfl, hs, hbb⟩
  have XA3 := Lib.hid (hs)
  obtain ⟨pxa, nxa, cxa, f0⟩ := XA3.out.slc
  subst f0
  have OT3 := Lib.hid (OT2.out.below hbb)
  have OC3 := Lib.hid (OC2.out.below hbb)
  have OR3 := Lib.hid (OR2.out.below hbb)
  have SU3 := Lib.hid (SU2.out.below hbb)
  have SG3 := Lib.hid (SG2.out.below hbb)
  have SA3 := Lib.hid (SA2.out.below hbb)
  have XU3 := Lib.hid (XU2.out.below hbb)
  have XG3 := Lib.hid (XG2.out.below hbb)
  have BB3 := Lib.hid (belowTo BB2.out hbb BB2.out.size)
  clear hbb hs
  obtain ⟨t30, t31, t32, _, _⟩ := own3 OT3.out
  obtain ⟨c30, c31, _, _⟩ := own2 OC3.out
  obtain ⟨r30, r31, r32, _, _⟩ := own3 OR3.out
  refine hK.out _ _ (⟨t30, t31, t32⟩) ?_
  clear hK K hHeld
  intro hHeld
  try simp only [Act.put, List.setIfInBounds_toArray, List.set_cons_zero, List.set_cons_succ]
  refine wpH_take (i := 12) (some 17) (v := ?x14v) rfl (by kernel_rfl) (by kernel_rfl) (by kernel_rfl) rfl (fun _ _ _ h => h) (Or.inl ⟨by rfl, ?x14y⟩) hHeld ?x14r
  case x14y => (intro w hSw; (try dsimp only at hSw); go_simp; try with_reducible rfl)
  try simp only [Act.put, List.setIfInBounds_toArray, List.set_cons_zero, List.set_cons_succ]
  refine wpH_one (i := 13) (by kernel_rfl) rfl (fun K hK => ?_)
  rw [if_pos (by rfl)]
  go_simp
  refine hK.out _ _ (⟨(far3 (by simp; try omega)).trans t30, (far3 (by simp; try omega)).trans t31, (far3 (by simp; try omega)).trans t32⟩) ?_
  clear hK K hHeld
  intro hHeld
  try simp only [Act.put, List.setIfInBounds_toArray, List.set_cons_zero, List.set_cons_succ]
  refine wpAnyH_done (by kernel_rfl) ?_ _
  have OF := Lib.hid (own_set3 (x := .slice pxu nxu cxu) (y := .slice pxg nxg cxg) (z := .slice pxa nxa cxa) OR3.out)
  have FU := Lib.hid (SlT.set3 XU3.out numU OR3.out (.slice pxu nxu cxu) (.slice pxg nxg cxg) (.slice pxa nxa cxa))
  have FG := Lib.hid (SlT.set3 XG3.out numG OR3.out (.slice pxu nxu cxu) (.slice pxg nxg cxg) (.slice pxa nxa cxa))
  have FA := Lib.hid (SlT.set3 XA3.out numA OR3.out (.slice pxu nxu cxu) (.slice pxg nxg cxg) (.slice pxa nxa cxa))
  have BF := Lib.hid (below_set3 (x := .slice pxu nxu cxu) (y := .slice pxg nxg cxg) (z := .slice pxa nxa cxa) BB3.out (show w.heap.size ≤ w.heap.size + 1 + 1 by omega))
  generalize (((w3.setCell ⟨w.heap.size + 1 + 1, 0, none⟩ (.slice pxu nxu cxu)).setCell ⟨w.heap.size + 1 + 1, 1, none⟩ (.slice pxg nxg cxg)).setCell ⟨w.heap.size + 1 + 1, 2, none⟩ (.slice pxa nxa cxa)) = wf at OF FU FG FA BF ⊢
  obtain ⟨q0, q1, q2, _, _⟩ := own3 OF.out
  go_wp2_with fail
  refine bodyPost_ret (v := .agg #[.slice pxu nxu cxu, .slice pxg nxg cxg, .slice pxa nxa cxa]) (by simp [results, Try.results21, go_sem, *]) rfl ⟨_, _, _, rfl, FU.out, FG.out, FA.out, BF.out⟩

set_option linter.unusedSimpArgs false in
set_option linter.unusedVariables false in
set_option maxRecDepth 100000 in
set_option maxHeartbeats 2000000 in
theorem exp_any (vu vg va : Value) (us : List Us) (gs : List Gr) (ks : List Ak) (z : Int) (w : World) (su : SlU w vu us) (sg : SlG w vg gs) (sa : SlA w va ks) (u70 : us.length ≤ 70) (g70 : gs.length ≤ 70) (k70 : ks.length ≤ 70) : Calls Try.prog 23 #[.agg #[vu, vg, va], .int .i64 z] w fun e w' => TblP w (us) (gs.filter (fun d => !decide (d.u < z))) (ks) e w' := by
  have SU := Lib.hid su
  have SG := Lib.hid sg
  have SA := Lib.hid sa
  clear su sg sa
  go_enter Try.func23, Try.ntmps23
  go_wp2_with fail
  have OTx := Lib.hid ((((own_at (w := w) (n := w.heap.size) [vu, vg, va] 26 (by rfl)).alloc (.cells #[.int .i64 z] 3)).alloc (.cells #[.slice none 0 0, .slice none 0 0, .slice none 0 0] 26)))
  have OCx := Lib.hid (((own_at (w := (w.alloc (.cells #[vu, vg, va] 26))) (n := w.heap.size + 1) [.int .i64 z] 3 (by simp)).alloc (.cells #[.slice none 0 0, .slice none 0 0, .slice none 0 0] 26)))
  have ORx := Lib.hid ((own_at (w := ((w.alloc (.cells #[vu, vg, va] 26)).alloc (.cells #[.int .i64 z] 3))) (n := w.heap.size + 1 + 1) [.slice none 0 0, .slice none 0 0, .slice none 0 0] 26 (by simp)))
  have BBx := Lib.hid (((((Below.refl w.heap.size w).alloc (by simp) (.cells #[vu, vg, va] 26)).alloc (by simp) (.cells #[.int .i64 z] 3)).alloc (by simp; omega) (.cells #[.slice none 0 0, .slice none 0 0, .slice none 0 0] 26)))
  have SUx := Lib.hid (SU.out.below BBx.out)
  have SGx := Lib.hid (SG.out.below BBx.out)
  have SAx := Lib.hid (SA.out.below BBx.out)
  change Code.wp _ _ _ _ (((w.alloc (.cells #[vu, vg, va] 26)).alloc (.cells #[.int .i64 z] 3)).alloc (.cells #[.slice none 0 0, .slice none 0 0, .slice none 0 0] 26))
  generalize (((w.alloc (.cells #[vu, vg, va] 26)).alloc (.cells #[.int .i64 z] 3)).alloc (.cells #[.slice none 0 0, .slice none 0 0, .slice none 0 0] 26)) = W at OTx OCx ORx BBx SUx SGx SAx ⊢
  have OT0 := Lib.hid (OTx.out.drew)
  have OC0 := Lib.hid (OCx.out.drew)
  have OR0 := Lib.hid (ORx.out.drew)
  have BD := Lib.hid (Below.refl W.heap.size W).drew
  have BB0 := Lib.hid (BBx.out.drew)
  have SU0 := Lib.hid (SUx.out.below BD.out)
  have SG0 := Lib.hid (SGx.out.below BD.out)
  have SA0 := Lib.hid (SAx.out.below BD.out)
  clear OTx OCx ORx BBx SUx SGx SAx BD SU SG SA
  obtain ⟨t00, t01, t02, _, _⟩ := own3 OT0.out
  obtain ⟨c00, _, _⟩ := own1 OC0.out
  obtain ⟨r00, r01, r02, _, _⟩ := own3 OR0.out
  refine region_H 12 #[false, false, false, false, false, false, false, false, false, false, false, false] (by kernel_rfl) (by kernel_rfl) (fun w' => w'.cell? ⟨w.heap.size, 0, none⟩ = some (vu) ∧ w'.cell? ⟨w.heap.size, 1, none⟩ = some (vg) ∧ w'.cell? ⟨w.heap.size, 2, none⟩ = some (va)) (by kernel_rfl) ?x16s (fun hHeld => ?x16r)
  case x16s => exact ⟨t00, t01, t02⟩
  refine wpH_take (i := 0) (some 5) (v := ?x17v) rfl (by kernel_rfl) (by kernel_rfl) (by kernel_rfl) rfl (fun _ _ _ h => h) (Or.inl ⟨by rfl, ?x17y⟩) hHeld ?x17r
  case x17y => (intro w hSw; (try dsimp only at hSw); go_simp; try with_reducible rfl)
  try simp only [Act.put, List.setIfInBounds_toArray, List.set_cons_zero, List.set_cons_succ]
  refine wpH_take (i := 1) (some 6) (v := ?x18v) rfl (by kernel_rfl) (by kernel_rfl) (by kernel_rfl) rfl (fun _ _ _ h => h) (Or.inl ⟨by rfl, ?x18y⟩) hHeld ?x18r
  case x18y => (intro w hSw; (try dsimp only at hSw); go_simp; try with_reducible rfl)
  try simp only [Act.put, List.setIfInBounds_toArray, List.set_cons_zero, List.set_cons_succ]
  refine wpH_take (i := 3) (some 8) (v := ?x19v) rfl (by kernel_rfl) (by kernel_rfl) (by kernel_rfl) rfl (fun _ _ _ h => h) (Or.inl ⟨by rfl, ?x19y⟩) hHeld ?x19r
  case x19y => (intro w hSw; (try dsimp only at hSw); go_simp; try with_reducible rfl)
  try simp only [Act.put, List.setIfInBounds_toArray, List.set_cons_zero, List.set_cons_succ]
  refine wpH_take (i := 4) (some 9) (v := ?x20v) rfl (by kernel_rfl) (by kernel_rfl) (by kernel_rfl) rfl (fun _ _ _ h => h) (Or.inl ⟨by rfl, ?x20y⟩) hHeld ?x20r
  case x20y => (intro w hSw; (try dsimp only at hSw); go_simp; try with_reducible rfl)
  try simp only [Act.put, List.setIfInBounds_toArray, List.set_cons_zero, List.set_cons_succ]
  refine wpH_take (i := 5) (some 10) (v := ?x21v) rfl (by kernel_rfl) (by kernel_rfl) (by kernel_rfl) rfl (fun _ _ _ h => h) (Or.inl ⟨by rfl, ?x21y⟩) hHeld ?x21r
  case x21y => (intro w hSw; (try dsimp only at hSw); go_simp; try with_reducible rfl)
  try simp only [Act.put, List.setIfInBounds_toArray, List.set_cons_zero, List.set_cons_succ]
  refine wpH_take (i := 7) (some 12) (v := ?x22v) rfl (by kernel_rfl) (by kernel_rfl) (by kernel_rfl) rfl (fun _ _ _ h => h) (Or.inl ⟨by rfl, ?x22y⟩) hHeld ?x22r
  case x22y => (intro w hSw; (try dsimp only at hSw); go_simp; try with_reducible rfl)
  try simp only [Act.put, List.setIfInBounds_toArray, List.set_cons_zero, List.set_cons_succ]
  refine wpH_take (i := 8) (some 13) (v := ?x23v) rfl (by kernel_rfl) (by kernel_rfl) (by kernel_rfl) rfl (fun _ _ _ h => h) (Or.inl ⟨by rfl, ?x23y⟩) hHeld ?x23r
  case x23y => (intro w hSw; (try dsimp only at hSw); go_simp; try with_reducible rfl)
  try simp only [Act.put, List.setIfInBounds_toArray, List.set_cons_zero, List.set_cons_succ]
  refine wpH_one (i := 2) (by kernel_rfl) rfl (fun K hK => ?_)
  rw [if_pos (by rfl)]
  go_simp
  refine (clone_u vu us _ SU0.out (by omega)).mono ?_
  rintro e w1 ⟨xu, rfl, hs, hbb⟩
  have XU1 := Lib.hid (slt_of_own (L := usL) hs)
  obtain ⟨pxu, nxu, cxu, f0⟩ := XU1.out.slc
  subst f0
  have OT1 := Lib.hid (OT0.out.below hbb)
  have OC1 := Lib.hid (OC0.out.below hbb)
  have OR1 := Lib.hid (OR0.out.below hbb)
  have SU1 := Lib.hid (SU0.out.below hbb)
  have SG1 := Lib.hid (SG0.out.below hbb)
  have SA1 := Lib.hid (SA0.out.below hbb)
  have BB1 := Lib.hid (belowTo BB0.out hbb BB0.out.size)
  clear hbb hs
  obtain ⟨t10, t11, t12, _, _⟩ := own3 OT1.out
  obtain ⟨c10, _, _⟩ := own1 OC1.out
  obtain ⟨r10, r11, r12, _, _⟩ := own3 OR1.out
  refine hK.out _ _ (⟨t10, t11, t12⟩) ?_
  clear hK K hHeld
  intro hHeld
  try simp only [Act.put, List.setIfInBounds_toArray, List.set_cons_zero, List.set_cons_succ]
  refine wpH_one (i := 6) (by kernel_rfl) rfl (fun K hK => ?_)
  rw [if_pos (by rfl)]
  go_simp
  refine (wth_exg vg gs (w.heap.size + 1) z _ SG1.out (by omega) OC1.out.lt (OC1.out.cell (i := 0) rfl)).mono ?_
  rintro e w2 ⟨xg, rfl, hs, hbb⟩
  have XG2 := Lib.hid (hs)
  obtain ⟨pxg, nxg, cxg, f0⟩ := XG2.out.slc
  subst f0
  have OT2 := Lib.hid (OT1.out.below hbb)
  have OC2 := Lib.hid (OC1.out.below hbb)
  have OR2 := Lib.hid (OR1.out.below hbb)
  have SU2 := Lib.hid (SU1.out.below hbb)
  have SG2 := Lib.hid (SG1.out.below hbb)
  have SA2 := Lib.hid (SA1.out.below hbb)
  have XU2 := Lib.hid (XU1.out.below hbb)
  have BB2 := Lib.hid (belowTo BB1.out hbb BB1.out.size)
  clear hbb hs
  obtain ⟨t20, t21, t22, _, _⟩ := own3 OT2.out
  obtain ⟨c20, _, _⟩ := own1 OC2.out
  obtain ⟨r20, r21, r22, _, _⟩ := own3 OR2.out
  refine hK.out _ _ (⟨t20, t21, t22⟩) ?_
  clear hK K hHeld
  intro hHeld
  try simp only [Act.put, List.setIfInBounds_toArray, List.set_cons_zero, List.set_cons_succ]
  refine wpH_one (i := 9) (by kernel_rfl) rfl (fun K hK => ?_)
  rw [if_pos (by rfl)]
  go_simp
  refine (clone_a va ks _ SA2.out (by omega)).mono ?_
  rintro e w3 ⟨xa, rfl, hs, hbb⟩
  have XA3 := Lib.hid (slt_of_own (L := akL) hs)
  obtain ⟨pxa, nxa, cxa, f0⟩ := XA3.out.slc
  subst f0
  have OT3 := Lib.hid (OT2.out.below hbb)
  have OC3 := Lib.hid (OC2.out.below hbb)
  have OR3 := Lib.hid (OR2.out.below hbb)
  have SU3 := Lib.hid (SU2.out.below hbb)
  have SG3 := Lib.hid (SG2.out.below hbb)
  have SA3 := Lib.hid (SA2.out.below hbb)
  have XU3 := Lib.hid (XU2.out.below hbb)
  have XG3 := Lib.hid (XG2.out.below hbb)
  have BB3 := Lib.hid (belowTo BB2.out hbb BB2.out.size)
  clear hbb hs
  obtain ⟨t30, t31, t32, _, _⟩ := own3 OT3.out
  obtain ⟨c30, _, _⟩ := own1 OC3.out
  obtain ⟨r30, r31, r32, _, _⟩ := own3 OR3.out
  refine hK.out _ _ (⟨t30, t31, t32⟩) ?_
  clear hK K hHeld
  intro hHeld
  try simp only [Act.put, List.setIfInBounds_toArray, List.set_cons_zero, List.set_cons_succ]
  refine wpH_take (i := 10) (some 15) (v := ?x27v) rfl (by kernel_rfl) (by kernel_rfl) (by kernel_rfl) rfl (fun _ _ _ h => h) (Or.inl ⟨by rfl, ?x27y⟩) hHeld ?x27r
  case x27y => (intro w hSw; (try dsimp only at hSw); go_simp; try with_reducible rfl)
  try simp only [Act.put, List.setIfInBounds_toArray, List.set_cons_zero, List.set_cons_succ]
  refine wpH_one (i := 11) (by kernel_rfl) rfl (fun K hK => ?_)
  rw [if_pos (by rfl)]
  go_simp
  refine hK.out _ _ (⟨(far3 (by simp; try omega)).trans t30, (far3 (by simp; try omega)).trans t31, (far3 (by simp; try omega)).trans t32⟩) ?_
  clear hK K hHeld
  intro hHeld
  try simp only [Act.put, List.setIfInBounds_toArray, List.set_cons_zero, List.set_cons_succ]
  refine wpAnyH_done (by kernel_rfl) ?_ _
  have OF := Lib.hid (own_set3 (x := .slice pxu nxu cxu) (y := .slice pxg nxg cxg) (z := .slice pxa nxa cxa) OR3.out)
  have FU := Lib.hid (SlT.set3 XU3.out numU OR3.out (.slice pxu nxu cxu) (.slice pxg nxg cxg) (.slice pxa nxa cxa))
  have FG := Lib.hid (SlT.set3 XG3.out numG OR3.out (.slice pxu nxu cxu) (.slice pxg nxg cxg) (.slice pxa nxa cxa))
  have FA := Lib.hid (SlT.set3 XA3.out numA OR3.out (.slice pxu nxu cxu) (.slice pxg nxg cxg) (.slice pxa nxa cxa))
  have BF := Lib.hid (below_set3 (x := .slice pxu nxu cxu) (y := .slice pxg nxg cxg) (z := .slice pxa nxa cxa) BB3.out (show w.heap.size ≤ w.heap.size + 1 + 1 by omega))
  generalize (((w3.setCell ⟨w.heap.size + 1 + 1, 0, none⟩ (.slice pxu nxu cxu)).setCell ⟨w.heap.size + 1 + 1, 1, none⟩ (.slice pxg nxg cxg)).setCell ⟨w.heap.size + 1 + 1, 2, none⟩ (.slice pxa nxa cxa)) = wf at OF FU FG FA BF ⊢
  obtain ⟨q0, q1, q2, _, _⟩ := own3 OF.out
  go_wp2_with fail
  refine bodyPost_ret (v := .agg #[.slice pxu nxu cxu, .slice pxg nxg cxg, .slice pxa nxa cxa]) (by simp [results, Try.results23, go_sem, *]) rfl ⟨_, _, _, rfl, FU.out, FG.out, FA.out, BF.out⟩

end Go.Proofs.Ytdmadnoijhmbcaa
