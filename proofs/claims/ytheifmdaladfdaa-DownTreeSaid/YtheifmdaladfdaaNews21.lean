/- What down.news yields. -/
import Derived.Test.YtheifmdaladfdaaHeld21
namespace Go.Proofs.Ytheifmdaladfdaa
open Go.RowKit Go.Shelf
attribute [local go_sem] Oper.semAt_some

set_option linter.unusedSimpArgs false in
set_option linter.unusedVariables false in
set_option maxRecDepth 100000 in
set_option maxHeartbeats 2000000 in
theorem news1_in (n l b1 b2 b3 bo br : Nat) (vb : Value) (be : List Dn) (c s : Int) (wE : World) (sl : SlD wE vb be) (J Jx : List Dn → World → Prop) (W : World)
    (hJ : AbidesFrom W.heap.size J) (hY : ∀ pre x W1, J pre W1 → pre.length < (newsL c s be).length → YieldAt Fence.wide (n - 1) Try.prog l #[.agg #[.int .i64 x.t, .int .i64 x.n, .int .i64 x.s, .int .i64 x.u]] W1 fun e W' =>
      (e = .returned (.bool true) ∧ J (pre ++ [x]) W' ∧ KpL wE.heap.size bo br W1 W') ∨ (e = .returned (.bool false) ∧ Jx (pre ++ [x]) W'))
    (hE : Below wE.heap.size wE W) (o1 : Saf bo br W b1 [.int .i64 c] 3) (o2 : Saf bo br W b2 [.int .i64 s] 3) (o3 : Saf bo br W b3 [vb] 22) (ok : RowOk bo W) (hbo : bo < W.heap.size) (hbr : br < W.heap.size) (h0 : J [] W) (hn : 1 ≤ n) :
    CallsIn Fence.wide n Try.prog 38 #[.func (.yield l) #[] #[], .pointer (some ⟨b1, 0, none⟩), .pointer (some ⟨b2, 0, none⟩), .pointer (some ⟨b3, 0, none⟩)] W fun e W' => (∃ v, e = .returned v) ∧
      ((∃ xs, xs.map keyD = (newsL c s be).map keyD ∧ J xs W') ∨ (∃ pre, True ∧ Jx pre W')) := by
  obtain ⟨p, cap, e, hlc, hcm, hpn⟩ := sl.form be.length rfl
  subst e
  have SL := Lib.hid sl
  unfold maxLen at hcm
  clear hpn sl
  have HJ := Lib.hid hJ
  have HY := Lib.hid hY
  have HE := Lib.hid hE
  have O1 := Lib.hid o1
  have O2 := Lib.hid o2
  have O3 := Lib.hid o3
  have OK := Lib.hid ok
  have c1 := o1.1.cell (i := 0) rfl
  have c2 := o2.1.cell (i := 0) rfl
  have c3 := o3.1.cell (i := 0) rfl
  have z1 := o1.1.lt
  have z2 := o2.1.lt
  have z3 := o3.1.lt
  clear hJ hY hE o1 o2 o3 ok
  have J0 := Lib.hid h0
  clear h0
  refine callsIn_of_wp Try.func38 rfl trivial ?_ rfl
  simp only [Try.ntmps38, List.size_toArray, List.length_cons, List.length_nil, Nat.reduceAdd, Nat.reduceSub, Array.replicate_succ, Array.replicate_zero, List.push_toArray, List.append_toArray, List.nil_append, List.cons_append]
  gi_wp2
  clear c1 c2 c3 z1 z2 z3
  have O5 := Lib.hid (Saf.new OK.out hbo hbr [.int .i64 c, .int .i64 0, .int .i64 s, .int .i64 0] 35 (n := W.heap.size) rfl)
  replace O1 := Lib.hid (O1.out.below hbo (belowNew W (Obj.cells #[.int .i64 c, .int .i64 0, .int .i64 s, .int .i64 0] 35)))
  replace O2 := Lib.hid (O2.out.below hbo (belowNew W (Obj.cells #[.int .i64 c, .int .i64 0, .int .i64 s, .int .i64 0] 35)))
  replace O3 := Lib.hid (O3.out.below hbo (belowNew W (Obj.cells #[.int .i64 c, .int .i64 0, .int .i64 s, .int .i64 0] 35)))
  replace OK := Lib.hid (OK.out.below hbo (belowNew W (Obj.cells #[.int .i64 c, .int .i64 0, .int .i64 s, .int .i64 0] 35)))
  replace HE := Lib.hid (HE.out.trans ((belowNew W (Obj.cells #[.int .i64 c, .int .i64 0, .int .i64 s, .int .i64 0] 35)).mono HE.out.size))
  replace J0 := Lib.hid (HJ.out [] W (W.alloc (Obj.cells #[.int .i64 c, .int .i64 0, .int .i64 s, .int .i64 0] 35)) none J0.out (World.grownBy_alloc W (Obj.cells #[.int .i64 c, .int .i64 0, .int .i64 s, .int .i64 0] 35) none) (fun r e => by cases e))
  have hsz : W.heap.size < (W.alloc (Obj.cells #[.int .i64 c, .int .i64 0, .int .i64 s, .int .i64 0] 35)).heap.size := by simp
  replace hbo := Nat.lt_trans hbo hsz
  replace hbr := Nat.lt_trans hbr hsz
  generalize W.alloc (Obj.cells #[.int .i64 c, .int .i64 0, .int .i64 s, .int .i64 0] 35) = W1 at O5 O1 O2 O3 OK HE J0 hsz hbo hbr ⊢
  obtain ⟨b5, hb5⟩ : ∃ b5, W.heap.size = b5 := ⟨_, rfl⟩
  rw [hb5] at O5 ⊢
  replace O5 := Lib.hid (show Saf2 bo br W1 b5 c s from ⟨_, _, O5.out⟩)
  have HB5 := Lib.hid hb5
  clear hb5 hsz
  gi_loopw [13] (fun ii wr => ∃ (i : Nat) (b : Bool) (pre : List Dn), ii = .int .i64 i ∧ i ≤ be.length ∧ (newsL c s be).map keyD = pre.map keyD ++ (nwF ⟨c, 0, s, 0⟩ b (be.drop i)).map keyD ∧ (i = 0 → b = true) ∧ (∀ m, i = m + 1 → ∃ pv, be[m]? = some pv ∧ decide (pv.t < c) = b) ∧ J pre wr ∧ Below wE.heap.size wE wr ∧ Saf bo br wr b1 [.int .i64 c] 3 ∧ Saf bo br wr b2 [.int .i64 s] 3 ∧ Saf bo br wr b3 [.slice p be.length cap] 22 ∧ Saf2 bo br wr b5 c s ∧ RowOk bo wr ∧ bo < wr.heap.size ∧ br < wr.heap.size) (fun i _ => be.length - (intOf i).toNat)
  case atStart => exact ⟨0, true, [], rfl, by omega, rfl, fun _ => rfl, fun m h => by omega, J0.out, HE.out, O1.out, O2.out, O3.out, O5.out, OK.out, hbo, hbr⟩
  case round =>
    clear J0 HE O1 O2 O3 O5 OK hbo hbr
    obtain ⟨i, b, pre, rfl, hi, hx, hb0, hb1, hJs, hEr, o1, o2, o3, o5, ok, hbo, hbr⟩ := hrel
    have HX := Lib.hid hx
    have HB0 := Lib.hid hb0
    have HBB := Lib.hid hb1
    have J0 := Lib.hid hJs
    have HE := Lib.hid hEr
    have O1 := Lib.hid o1
    have O2 := Lib.hid o2
    have O3 := Lib.hid o3
    have O5 := Lib.hid o5
    have OK := Lib.hid ok
    clear hx hb0 hb1 hJs hEr o1 o2 o3 o5 ok
    have j0 : (0 : Int) ≤ (i : Int) := Int.natCast_nonneg _
    by_cases hlt : i < be.length
    · obtain ⟨d, bd, off, hd, rfl, hbl, _, d0, d1, d2, d3⟩ := SL.out.at4 HE.out hlt
      have j1 : (i : Int) < (be.length : Int) := by omega
      have HD := Lib.hid hd
      clear hd
      gi_wp2
      clear d0 d1 d2 d3 hbl
      have O7 := Lib.hid (Saf.new OK.out hbo hbr [.int .i64 d.t, .int .i64 d.n, .int .i64 d.s, .int .i64 d.u] 35 (n := wr.heap.size) rfl)
      replace O1 := Lib.hid (O1.out.below hbo (belowNew wr (Obj.cells #[.int .i64 d.t, .int .i64 d.n, .int .i64 d.s, .int .i64 d.u] 35)))
      replace O2 := Lib.hid (O2.out.below hbo (belowNew wr (Obj.cells #[.int .i64 d.t, .int .i64 d.n, .int .i64 d.s, .int .i64 d.u] 35)))
      replace O3 := Lib.hid (O3.out.below hbo (belowNew wr (Obj.cells #[.int .i64 d.t, .int .i64 d.n, .int .i64 d.s, .int .i64 d.u] 35)))
      replace O5 := Lib.hid (O5.out.below hbo (belowNew wr (Obj.cells #[.int .i64 d.t, .int .i64 d.n, .int .i64 d.s, .int .i64 d.u] 35)))
      replace OK := Lib.hid (OK.out.below hbo (belowNew wr (Obj.cells #[.int .i64 d.t, .int .i64 d.n, .int .i64 d.s, .int .i64 d.u] 35)))
      replace HE := Lib.hid (HE.out.trans ((belowNew wr (Obj.cells #[.int .i64 d.t, .int .i64 d.n, .int .i64 d.s, .int .i64 d.u] 35)).mono HE.out.size))
      replace J0 := Lib.hid (HJ.out pre wr (wr.alloc (Obj.cells #[.int .i64 d.t, .int .i64 d.n, .int .i64 d.s, .int .i64 d.u] 35)) none J0.out (World.grownBy_alloc wr (Obj.cells #[.int .i64 d.t, .int .i64 d.n, .int .i64 d.s, .int .i64 d.u] 35) none) (fun r e => by cases e))
      have hsz : wr.heap.size < (wr.alloc (Obj.cells #[.int .i64 d.t, .int .i64 d.n, .int .i64 d.s, .int .i64 d.u] 35)).heap.size := by simp
      replace hbo := Nat.lt_trans hbo hsz
      replace hbr := Nat.lt_trans hbr hsz
      generalize wr.alloc (Obj.cells #[.int .i64 d.t, .int .i64 d.n, .int .i64 d.s, .int .i64 d.u] 35) = W2 at O7 O1 O2 O3 O5 OK HE J0 hsz hbo hbr ⊢
      obtain ⟨b7, hb7⟩ : ∃ b7, wr.heap.size = b7 := ⟨_, rfl⟩
      rw [hb7] at O7 ⊢
      clear hb7 hsz
      have c1 := O1.out.1.cell (i := 0) rfl
      have c3 := O3.out.1.cell (i := 0) rfl
      obtain ⟨k0, k1, k2, k3, fK, zK⟩ := own4 O7.out.1
      replace O7 := Lib.hid (show Saf2 bo br W2 b7 d.t d.s from ⟨_, _, O7.out⟩)
      have zb1 := O1.out.1.lt
      have zb3 := O3.out.1.lt
      cases h1 : decide (c < d.t) with
      | false =>
        replace HX := Lib.hid (show (newsL c s be).map keyD = pre.map keyD ++ (d.t, d.s) :: (nwF ⟨c, 0, s, 0⟩ (decide (d.t < c)) (be.drop (i + 1))).map keyD by rw [HX.out, nwF_at HD.out, if_neg (by simp [h1])]; rfl)
        refine wpIn_wide.2 ?_
        go_quiet (fail)
        clear c1 c3 k0 k1 k2 k3 fK zK zb1 zb3
        replace O1 := Lib.hid (show Saf bo br (W2.drewN nq) b1 [.int .i64 c] 3 from O1.out)
        replace O2 := Lib.hid (show Saf bo br (W2.drewN nq) b2 [.int .i64 s] 3 from O2.out)
        replace O3 := Lib.hid (show Saf bo br (W2.drewN nq) b3 [.slice (some ⟨bd, off, none⟩) be.length cap] 22 from O3.out)
        replace O5 := Lib.hid (show Saf2 bo br (W2.drewN nq) b5 c s from O5.out)
        replace O7 := Lib.hid (show Saf2 bo br (W2.drewN nq) b7 d.t d.s from O7.out)
        replace OK := Lib.hid (show RowOk bo (W2.drewN nq) from OK.out)
        replace HE := Lib.hid (show Below wE.heap.size wE (W2.drewN nq) from HE.out.trans ⟨rfl, rfl, rfl, Nat.le_refl _, fun _ _ => rfl⟩)
        replace J0 := Lib.hid (HJ.out pre W2 (W2.drewN nq) none J0.out ⟨rfl, rfl, rfl, Nat.le_refl _, fun _ _ _ => rfl⟩ (fun r e => by cases e))
        replace hbo : bo < (W2.drewN nq).heap.size := hbo
        replace hbr : br < (W2.drewN nq).heap.size := hbr
        generalize W2.drewN nq = W3 at O1 O2 O3 O5 O7 OK HE J0 hbo hbr  ⊢
        obtain ⟨n7, u7, s7⟩ := O7.out
        obtain ⟨k0, k1, k2, k3, fK, zK⟩ := own4 s7.1
        clear s7
        obtain ⟨fn, tmps, assign, body, hy, hR⟩ := HY.out pre ⟨d.t, n7, d.s, u7⟩ W3 J0.out (pre_lt HX.out)
        dsimp only at hy
        gi_wp2
        refine hR.mono ?_
        clear hR hy k0 k1 k2 k3 fK zK
        rintro e W4 (⟨rfl, hJ4, hk⟩ | ⟨rfl, hJx⟩)
        · replace O1 := Lib.hid (O1.out.kept rfl hk)
          replace O2 := Lib.hid (O2.out.kept rfl hk)
          replace O3 := Lib.hid (O3.out.kept rfl hk)
          replace O5 := Lib.hid (O5.out.kept hk)
          replace O7 := Lib.hid (O7.out.kept hk)
          replace OK := Lib.hid (hk.ok OK.out)
          replace HE := Lib.hid (HE.out.trans hk.bel)
          replace hbo := Nat.lt_of_lt_of_le hbo hk.bel.size
          replace hbr := Nat.lt_of_lt_of_le hbr hk.bel.size
          replace J0 := Lib.hid hJ4
          clear hk hJ4
          gi_wp2
          go_roundw
          case rel => exact ⟨i + 1, decide (d.t < c), pre ++ [⟨d.t, n7, d.s, u7⟩], by go_num, by omega, by rw [HX.out]; simp [keyD], fun h => by omega, fun m h => by
            obtain rfl : m = i := by omega
            exact ⟨d, HD.out, rfl⟩, J0.out, HE.out, O1.out, O2.out, O3.out, O5.out, OK.out, hbo, hbr⟩
          case measure => simp [intOf]; omega
        · gi_wp2
          refine bodyPost_ret (results_none rfl _ _ _) rfl ?_
          first | exact ⟨⟨_, rfl⟩, .inr ⟨_, trivial, hJx⟩⟩ | exact ⟨⟨_, rfl⟩, .inr ⟨_, hJx⟩⟩
      | true =>
        by_cases hi0 : i = 0
        · have HB1 := Lib.hid (HB0.out hi0)
          have k4 : ((i : Int) == 0) = true := by simp [hi0]
          replace HX := Lib.hid (show (newsL c s be).map keyD = pre.map keyD ++ (c, s) :: ((d.t, d.s) :: (nwF ⟨c, 0, s, 0⟩ (decide (d.t < c)) (be.drop (i + 1))).map keyD) by rw [HX.out, nwF_at HD.out, if_pos (by simp [h1, HB1.out])]; rfl)
          obtain ⟨n5, u5, s5⟩ := O5.out
          obtain ⟨q0, q1, q2, q3, fQ, zQ⟩ := own4 s5.1
          clear s5
          replace O1 := Lib.hid (show Saf bo br (W2.drew) b1 [.int .i64 c] 3 from O1.out)
          replace O2 := Lib.hid (show Saf bo br (W2.drew) b2 [.int .i64 s] 3 from O2.out)
          replace O3 := Lib.hid (show Saf bo br (W2.drew) b3 [.slice (some ⟨bd, off, none⟩) be.length cap] 22 from O3.out)
          replace O5 := Lib.hid (show Saf2 bo br (W2.drew) b5 c s from O5.out)
          replace O7 := Lib.hid (show Saf2 bo br (W2.drew) b7 d.t d.s from O7.out)
          replace OK := Lib.hid (show RowOk bo (W2.drew) from OK.out)
          replace HE := Lib.hid (show Below wE.heap.size wE (W2.drew) from HE.out.trans ⟨rfl, rfl, rfl, Nat.le_refl _, fun _ _ => rfl⟩)
          replace J0 := Lib.hid (HJ.out pre W2 (W2.drew) none J0.out ⟨rfl, rfl, rfl, Nat.le_refl _, fun _ _ _ => rfl⟩ (fun r e => by cases e))
          replace hbo : bo < (W2.drew).heap.size := hbo
          replace hbr : br < (W2.drew).heap.size := hbr
          obtain ⟨fn, tmps, assign, body, hy, hR⟩ := HY.out pre ⟨c, n5, s, u5⟩ W2.drew J0.out (pre_lt HX.out)
          replace hR : RoundIn Fence.wide (n - 1) Try.prog l fn tmps assign body W2.drew fun e W' => ∃ r, e = .returned (.bool r) ∧ ((r = true ∧ J (pre ++ [⟨c, n5, s, u5⟩]) W' ∧ KpL wE.heap.size bo br W2.drew W') ∨ (r = false ∧ Jx (pre ++ [⟨c, n5, s, u5⟩]) W')) := hR.mono fun e W' h => by
            rcases h with ⟨h, h2⟩ | ⟨h, h2⟩
            · exact ⟨true, h, .inl ⟨rfl, h2⟩⟩
            · exact ⟨false, h, .inr ⟨rfl, h2⟩⟩
          have HRR := Lib.hid hR
          clear hR
          dsimp only at hy
          have TS := Lib.hid (show ∀ W' : World, True from fun _ => trivial)
          refine region_S 24 #[false, false, false, false, false, false, false, false, false, false, false, false, false, false, false, false, false, false, false, false, false, false, false, false] (by kernel_rfl) (by kernel_rfl) (fun w' => w'.cell? ⟨b7, 0, none⟩ = some (.int .i64 d.t) ∧ w'.cell? ⟨b1, 0, none⟩ = some (.int .i64 c) ∧ w'.cell? ⟨b5, 0, none⟩ = some (.int .i64 c) ∧ w'.cell? ⟨b5, 1, none⟩ = some (.int .i64 n5) ∧ w'.cell? ⟨b5, 2, none⟩ = some (.int .i64 s) ∧ w'.cell? ⟨b5, 3, none⟩ = some (.int .i64 u5)) 21 _ (fun _ _ h => h) (fun _ => trivial) (by kernel_rfl) ?x1s (fun hHeld hClo => ?x1r)
          case x1s => exact ⟨k0, c1, q0, q1, q2, q3⟩
          refine wpS_take (i := 0) (some 18) 40 (v := ?x2v) (fun _ => trivial) (by kernel_rfl) rfl (by kernel_rfl) (by kernel_rfl) (by kernel_rfl) (by kernel_rfl) rfl (Or.inl ⟨by rfl, ?x2y⟩) hHeld hClo ?x2r
          case x2y => (intro w hSw; (try dsimp only at hSw); go_simp; try with_reducible rfl)
          (intro hN; clear hClo; have hClo := hN; clear hN)
          try simp only [Act.put, List.setIfInBounds_toArray, List.set_cons_zero, List.set_cons_succ]
          refine wpS_take (i := 1) (some 19) 40 (v := ?x3v) (fun _ => trivial) (by kernel_rfl) rfl (by kernel_rfl) (by kernel_rfl) (by kernel_rfl) (by kernel_rfl) rfl (Or.inl ⟨by rfl, ?x3y⟩) hHeld hClo ?x3r
          case x3y => (intro w hSw; (try dsimp only at hSw); go_simp; try with_reducible rfl)
          (intro hN; clear hClo; have hClo := hN; clear hN)
          try simp only [Act.put, List.setIfInBounds_toArray, List.set_cons_zero, List.set_cons_succ]
          refine wpS_take (i := 2) (some 20) 40 (v := ?x4v) (fun _ => trivial) (by kernel_rfl) rfl (by kernel_rfl) (by kernel_rfl) (by kernel_rfl) (by kernel_rfl) rfl (Or.inl ⟨by rfl, ?x4y⟩) hHeld hClo ?x4r
          case x4y => (intro w hSw; (try dsimp only at hSw); go_simp; try with_reducible rfl)
          (intro hN; clear hClo; have hClo := hN; clear hN)
          try simp only [Act.put, List.setIfInBounds_toArray, List.set_cons_zero, List.set_cons_succ]
          refine wpS_take (i := 3) (some 21) 40 (v := ?x5v) (fun _ => trivial) (by kernel_rfl) rfl (by kernel_rfl) (by kernel_rfl) (by kernel_rfl) (by kernel_rfl) rfl (Or.inl ⟨by rfl, ?x5y⟩) hHeld hClo ?x5r
          case x5y => (intro w hSw; (try dsimp only at hSw); go_simp; try with_reducible rfl)
          (intro hN; clear hClo; have hClo := hN; clear hN)
          try simp only [Act.put, List.setIfInBounds_toArray, List.set_cons_zero, List.set_cons_succ]
          refine wpS_take (i := 4) (some 22) 40 (v := ?x6v) (fun _ => trivial) (by kernel_rfl) rfl (by kernel_rfl) (by kernel_rfl) (by kernel_rfl) (by kernel_rfl) rfl (Or.inl ⟨by rfl, ?x6y⟩) hHeld hClo ?x6r
          case x6y => (intro w hSw; (try dsimp only at hSw); go_simp; try with_reducible rfl)
          (intro hN; clear hClo; have hClo := hN; clear hN)
          try simp only [Act.put, List.setIfInBounds_toArray, List.set_cons_zero, List.set_cons_succ]
          refine wpS_take (i := 5) (some 23) 40 (v := ?x7v) (fun _ => trivial) (by kernel_rfl) rfl (by kernel_rfl) (by kernel_rfl) (by kernel_rfl) (by kernel_rfl) rfl (Or.inl ⟨by rfl, ?x7y⟩) hHeld hClo ?x7r
          case x7y => (intro w hSw; (try dsimp only at hSw); go_simp; try with_reducible rfl)
          (intro hN; clear hClo; have hClo := hN; clear hN)
          try simp only [Act.put, List.setIfInBounds_toArray, List.set_cons_zero, List.set_cons_succ]
          refine wpS_take (i := 6) (some 24) 40 (v := ?x8v) (fun _ => trivial) (by kernel_rfl) rfl (by kernel_rfl) (by kernel_rfl) (by kernel_rfl) (by kernel_rfl) rfl (Or.inl ⟨by rfl, ?x8y⟩) hHeld hClo ?x8r
          case x8y => (intro w hSw; (try dsimp only at hSw); go_simp; try with_reducible rfl)
          (intro hN; clear hClo; have hClo := hN; clear hN)
          try simp only [Act.put, List.setIfInBounds_toArray, List.set_cons_zero, List.set_cons_succ]
          refine wpS_take (i := 7) (some 25) 40 (v := ?x9v) (fun _ => trivial) (by kernel_rfl) rfl (by kernel_rfl) (by kernel_rfl) (by kernel_rfl) (by kernel_rfl) rfl (Or.inl ⟨by rfl, ?x9y⟩) hHeld hClo ?x9r
          case x9y => (intro w hSw; (try dsimp only at hSw); go_simp; try with_reducible rfl)
          (intro hN; clear hClo; have hClo := hN; clear hN)
          try simp only [Act.put, List.setIfInBounds_toArray, List.set_cons_zero, List.set_cons_succ]
          refine wpS_take (i := 8) (some 26) 40 (v := undef) (fun _ => trivial) (by kernel_rfl) rfl (by kernel_rfl) (by kernel_rfl) (by kernel_rfl) (by kernel_rfl) rfl (Or.inr ⟨by rfl, rfl⟩) hHeld hClo ?x10r
          (intro hN; clear hClo; have hClo := hN; clear hN)
          try simp only [Act.put, List.setIfInBounds_toArray, List.set_cons_zero, List.set_cons_succ]
          refine wpS_take (i := 9) (some 27) 40 (v := undef) (fun _ => trivial) (by kernel_rfl) rfl (by kernel_rfl) (by kernel_rfl) (by kernel_rfl) (by kernel_rfl) rfl (Or.inr ⟨by rfl, rfl⟩) hHeld hClo ?x11r
          (intro hN; clear hClo; have hClo := hN; clear hN)
          try simp only [Act.put, List.setIfInBounds_toArray, List.set_cons_zero, List.set_cons_succ]
          refine wpS_take (i := 10) (some 28) 40 (v := undef) (fun _ => trivial) (by kernel_rfl) rfl (by kernel_rfl) (by kernel_rfl) (by kernel_rfl) (by kernel_rfl) rfl (Or.inr ⟨by rfl, rfl⟩) hHeld hClo ?x12r
          (intro hN; clear hClo; have hClo := hN; clear hN)
          try simp only [Act.put, List.setIfInBounds_toArray, List.set_cons_zero, List.set_cons_succ]
          refine wpS_take (i := 11) (some 29) 40 (v := undef) (fun _ => trivial) (by kernel_rfl) rfl (by kernel_rfl) (by kernel_rfl) (by kernel_rfl) (by kernel_rfl) rfl (Or.inr ⟨by rfl, rfl⟩) hHeld hClo ?x13r
          (intro hN; clear hClo; have hClo := hN; clear hN)
          try simp only [Act.put, List.setIfInBounds_toArray, List.set_cons_zero, List.set_cons_succ]
          refine wpS_take (i := 12) (some 30) 40 (v := undef) (fun _ => trivial) (by kernel_rfl) rfl (by kernel_rfl) (by kernel_rfl) (by kernel_rfl) (by kernel_rfl) rfl (Or.inr ⟨by rfl, rfl⟩) hHeld hClo ?x14r
          (intro hN; clear hClo; have hClo := hN; clear hN)
          try simp only [Act.put, List.setIfInBounds_toArray, List.set_cons_zero, List.set_cons_succ]
          refine wpS_take (i := 13) (some 31) 40 (v := undef) (fun _ => trivial) (by kernel_rfl) rfl (by kernel_rfl) (by kernel_rfl) (by kernel_rfl) (by kernel_rfl) rfl (Or.inr ⟨by rfl, rfl⟩) hHeld hClo ?x15r
          (intro hN; clear hClo; have hClo := hN; clear hN)
          try simp only [Act.put, List.setIfInBounds_toArray, List.set_cons_zero, List.set_cons_succ]
          refine wpS_take (i := 14) (some 32) 40 (v := undef) (fun _ => trivial) (by kernel_rfl) rfl (by kernel_rfl) (by kernel_rfl) (by kernel_rfl) (by kernel_rfl) rfl (Or.inr ⟨by rfl, rfl⟩) hHeld hClo ?x16r
          (intro hN; clear hClo; have hClo := hN; clear hN)
          try simp only [Act.put, List.setIfInBounds_toArray, List.set_cons_zero, List.set_cons_succ]
          refine wpS_take (i := 15) (some 33) 40 (v := undef) (fun _ => trivial) (by kernel_rfl) rfl (by kernel_rfl) (by kernel_rfl) (by kernel_rfl) (by kernel_rfl) rfl (Or.inr ⟨by rfl, rfl⟩) hHeld hClo ?x17r
          (intro hN; clear hClo; have hClo := hN; clear hN)
          try simp only [Act.put, List.setIfInBounds_toArray, List.set_cons_zero, List.set_cons_succ]
          refine wpS_take (i := 16) (some 34) 40 (v := ?x18v) (fun _ => trivial) (by kernel_rfl) rfl (by kernel_rfl) (by kernel_rfl) (by kernel_rfl) (by kernel_rfl) rfl (Or.inl ⟨by rfl, ?x18y⟩) hHeld hClo ?x18r
          case x18y => (intro w hSw; (try dsimp only at hSw); go_simp; try with_reducible rfl)
          (intro hN; clear hClo; have hClo := hN; clear hN)
          try simp only [Act.put, List.setIfInBounds_toArray, List.set_cons_zero, List.set_cons_succ]
          refine wpS_take (i := 17) (some 35) 40 (v := ?x19v) (fun _ => trivial) (by kernel_rfl) rfl (by kernel_rfl) (by kernel_rfl) (by kernel_rfl) (by kernel_rfl) rfl (Or.inl ⟨by rfl, ?x19y⟩) hHeld hClo ?x19r
          case x19y => (intro w hSw; (try dsimp only at hSw); go_simp; try with_reducible rfl)
          (intro hN; clear hClo; have hClo := hN; clear hN)
          try simp only [Act.put, List.setIfInBounds_toArray, List.set_cons_zero, List.set_cons_succ]
          refine wpS_take (i := 18) (some 36) 40 (v := ?x20v) (fun _ => trivial) (by kernel_rfl) rfl (by kernel_rfl) (by kernel_rfl) (by kernel_rfl) (by kernel_rfl) rfl (Or.inl ⟨by rfl, ?x20y⟩) hHeld hClo ?x20r
          case x20y => (intro w hSw; (try dsimp only at hSw); go_simp; try with_reducible rfl)
          (intro hN; clear hClo; have hClo := hN; clear hN)
          try simp only [Act.put, List.setIfInBounds_toArray, List.set_cons_zero, List.set_cons_succ]
          refine wpS_take (i := 19) (some 37) 40 (v := ?x21v) (fun _ => trivial) (by kernel_rfl) rfl (by kernel_rfl) (by kernel_rfl) (by kernel_rfl) (by kernel_rfl) rfl (Or.inl ⟨by rfl, ?x21y⟩) hHeld hClo ?x21r
          case x21y => (intro w hSw; (try dsimp only at hSw); go_simp; try with_reducible rfl)
          (intro hN; clear hClo; have hClo := hN; clear hN)
          try simp only [Act.put, List.setIfInBounds_toArray, List.set_cons_zero, List.set_cons_succ]
          refine wpS_take (i := 20) (some 38) 40 (v := ?x22v) (fun _ => trivial) (by kernel_rfl) rfl (by kernel_rfl) (by kernel_rfl) (by kernel_rfl) (by kernel_rfl) rfl (Or.inl ⟨by rfl, ?x22y⟩) hHeld hClo ?x22r
          case x22y => (intro w hSw; (try dsimp only at hSw); go_simp; try with_reducible rfl)
          (intro hN; clear hClo; have hClo := hN; clear hN)
          try simp only [Act.put, List.setIfInBounds_toArray, List.set_cons_zero, List.set_cons_succ]
          refine wpS_one (i := 21) (by kernel_rfl) rfl hClo (fun K hK => ?_)
          rw [if_pos (by rfl)]
          go_simp
          refine HRR.out.mono ?_
          rintro e W3 ⟨r, rfl, hr⟩
          replace hr := Lib.hid hr
          clear c1 c3 k0 k1 k2 k3 fK zK zb1 zb3 q0 q1 q2 q3 fQ zQ hy HRR
          dsimp only
          refine hK _ _ (fun e => absurd (e.symm.trans (by kernel_rfl : _ = true)) (by decide)) ?_
          clear hK K
          intro hHeld
          (intro hN; clear hClo; have hClo := hN; clear hN)
          try simp only [Act.put, List.setIfInBounds_toArray, List.set_cons_zero, List.set_cons_succ]
          refine wpS_one (i := 22) (by kernel_rfl) rfl hClo (fun K hK => ?_)
          rw [if_pos (by rfl)]
          go_simp
          refine hK _ _ (fun e => absurd (e.symm.trans (by kernel_rfl : _ = true)) (by decide)) ?_
          clear hK K
          intro hHeld
          (intro hN; clear hClo; have hClo := hN; clear hN)
          try simp only [Act.put, List.setIfInBounds_toArray, List.set_cons_zero, List.set_cons_succ]
          refine wpS_one (i := 23) (by kernel_rfl) rfl hClo (fun K hK => ?_)
          rw [if_pos (by rfl)]
          go_simp
          refine hK _ _ (fun e => absurd (e.symm.trans (by kernel_rfl : _ = true)) (by decide)) ?_
          clear hK K
          intro hHeld
          (intro hN; clear hClo; have hClo := hN; clear hN)
          try simp only [Act.put, List.setIfInBounds_toArray, List.set_cons_zero, List.set_cons_succ]
          refine wpS_done (by kernel_rfl) ?_ _
          replace hr := hr.out
          clear hHeld hClo
          rcases hr with ⟨rfl, hJ3, hk⟩ | ⟨rfl, hJx⟩
          · replace O1 := Lib.hid (O1.out.kept rfl hk)
            replace O2 := Lib.hid (O2.out.kept rfl hk)
            replace O3 := Lib.hid (O3.out.kept rfl hk)
            replace O5 := Lib.hid (O5.out.kept hk)
            replace O7 := Lib.hid (O7.out.kept hk)
            replace OK := Lib.hid (hk.ok OK.out)
            replace HE := Lib.hid (HE.out.trans hk.bel)
            replace hbo := Nat.lt_of_lt_of_le hbo hk.bel.size
            replace hbr := Nat.lt_of_lt_of_le hbr hk.bel.size
            replace J0 := Lib.hid hJ3
            clear hk hJ3
            replace HX := Lib.hid (show (newsL c s be).map keyD = (pre ++ [(⟨c, n5, s, u5⟩ : Dn)]).map keyD ++ (d.t, d.s) :: (nwF ⟨c, 0, s, 0⟩ (decide (d.t < c)) (be.drop (i + 1))).map keyD by rw [HX.out]; simp [keyD])
            obtain ⟨n7, u7, s7⟩ := O7.out
            obtain ⟨k0, k1, k2, k3, fK, zK⟩ := own4 s7.1
            clear s7
            obtain ⟨fn, tmps, assign, body, hy, hR⟩ := HY.out (pre ++ [⟨c, n5, s, u5⟩]) ⟨d.t, n7, d.s, u7⟩ W3 J0.out (pre_lt HX.out)
            dsimp only at hy
            gi_wp2
            refine hR.mono ?_
            clear hR hy k0 k1 k2 k3 fK zK
            rintro e W4 (⟨rfl, hJ4, hk⟩ | ⟨rfl, hJx⟩)
            · replace O1 := Lib.hid (O1.out.kept rfl hk)
              replace O2 := Lib.hid (O2.out.kept rfl hk)
              replace O3 := Lib.hid (O3.out.kept rfl hk)
              replace O5 := Lib.hid (O5.out.kept hk)
              replace O7 := Lib.hid (O7.out.kept hk)
              replace OK := Lib.hid (hk.ok OK.out)
              replace HE := Lib.hid (HE.out.trans hk.bel)
              replace hbo := Nat.lt_of_lt_of_le hbo hk.bel.size
              replace hbr := Nat.lt_of_lt_of_le hbr hk.bel.size
              replace J0 := Lib.hid hJ4
              clear hk hJ4
              gi_wp2
              go_roundw
              case rel => exact ⟨i + 1, decide (d.t < c), (pre ++ [⟨c, n5, s, u5⟩]) ++ [⟨d.t, n7, d.s, u7⟩], by go_num, by omega, by rw [HX.out]; simp [keyD], fun h => by omega, fun m h => by
                obtain rfl : m = i := by omega
                exact ⟨d, HD.out, rfl⟩, J0.out, HE.out, O1.out, O2.out, O3.out, O5.out, OK.out, hbo, hbr⟩
              case measure => simp [intOf]; omega
            · gi_wp2
              refine bodyPost_ret (results_none rfl _ _ _) rfl ?_
              first | exact ⟨⟨_, rfl⟩, .inr ⟨_, trivial, hJx⟩⟩ | exact ⟨⟨_, rfl⟩, .inr ⟨_, hJx⟩⟩
          · gi_wp2
            refine bodyPost_ret (results_none rfl _ _ _) rfl ?_
            first | exact ⟨⟨_, rfl⟩, .inr ⟨_, trivial, hJx⟩⟩ | exact ⟨⟨_, rfl⟩, .inr ⟨_, hJx⟩⟩
        · obtain ⟨m, hm⟩ : ∃ m, i = m + 1 := ⟨i - 1, by omega⟩
          obtain ⟨pv, hpv, hb⟩ := HBB.out m hm
          obtain ⟨pv', b', off', hpv', e', _, _, e0, _⟩ := SL.out.at4 HE.out (i := m) (by omega)
          cases e'
          obtain rfl : pv = pv' := by rw [hpv] at hpv'; exact Option.some.inj hpv'
          have m0 : (0 : Int) ≤ (m : Int) := Int.natCast_nonneg _
          have m1 : (m : Int) < (be.length : Int) := by omega
          clear hpv hpv' 
          have k4 : ((i : Int) == 0) = false := beq_eq_false_iff_ne.2 (by omega)
          have wm : IntKind.i64.wrap ((i : Int) - 1) = (m : Int) := by rw [IntWalk.i64_in _ (by omega)]; omega
          clear hm hi0
          cases b with
          | true =>
            have HB1 := Lib.hid (rfl : true = true)
            have hbd : bd < W2.heap.size := by have := HE.out.size; omega
            replace HX := Lib.hid (show (newsL c s be).map keyD = pre.map keyD ++ (c, s) :: ((d.t, d.s) :: (nwF ⟨c, 0, s, 0⟩ (decide (d.t < c)) (be.drop (i + 1))).map keyD) by rw [HX.out, nwF_at HD.out, if_pos (by simp [h1])]; rfl)
            obtain ⟨n5, u5, s5⟩ := O5.out
            obtain ⟨q0, q1, q2, q3, fQ, zQ⟩ := own4 s5.1
            clear s5
            replace O1 := Lib.hid (show Saf bo br (W2.drew) b1 [.int .i64 c] 3 from O1.out)
            replace O2 := Lib.hid (show Saf bo br (W2.drew) b2 [.int .i64 s] 3 from O2.out)
            replace O3 := Lib.hid (show Saf bo br (W2.drew) b3 [.slice (some ⟨bd, off, none⟩) be.length cap] 22 from O3.out)
            replace O5 := Lib.hid (show Saf2 bo br (W2.drew) b5 c s from O5.out)
            replace O7 := Lib.hid (show Saf2 bo br (W2.drew) b7 d.t d.s from O7.out)
            replace OK := Lib.hid (show RowOk bo (W2.drew) from OK.out)
            replace HE := Lib.hid (show Below wE.heap.size wE (W2.drew) from HE.out.trans ⟨rfl, rfl, rfl, Nat.le_refl _, fun _ _ => rfl⟩)
            replace J0 := Lib.hid (HJ.out pre W2 (W2.drew) none J0.out ⟨rfl, rfl, rfl, Nat.le_refl _, fun _ _ _ => rfl⟩ (fun r e => by cases e))
            replace hbo : bo < (W2.drew).heap.size := hbo
            replace hbr : br < (W2.drew).heap.size := hbr
            obtain ⟨fn, tmps, assign, body, hy, hR⟩ := HY.out pre ⟨c, n5, s, u5⟩ W2.drew J0.out (pre_lt HX.out)
            replace hR : RoundIn Fence.wide (n - 1) Try.prog l fn tmps assign body W2.drew fun e W' => ∃ r, e = .returned (.bool r) ∧ ((r = true ∧ J (pre ++ [⟨c, n5, s, u5⟩]) W' ∧ KpL wE.heap.size bo br W2.drew W') ∨ (r = false ∧ Jx (pre ++ [⟨c, n5, s, u5⟩]) W')) := hR.mono fun e W' h => by
              rcases h with ⟨h, h2⟩ | ⟨h, h2⟩
              · exact ⟨true, h, .inl ⟨rfl, h2⟩⟩
              · exact ⟨false, h, .inr ⟨rfl, h2⟩⟩
            have HRR := Lib.hid hR
            clear hR
            dsimp only at hy
            have TS := Lib.hid (show ∀ W' : World, True from fun _ => trivial)
            refine region_S 24 #[false, false, false, false, false, false, false, false, false, false, false, false, false, false, false, false, false, false, false, false, false, false, false, false] (by kernel_rfl) (by kernel_rfl) (fun w' => w'.cell? ⟨b7, 0, none⟩ = some (.int .i64 d.t) ∧ w'.cell? ⟨b1, 0, none⟩ = some (.int .i64 c) ∧ w'.cell? ⟨b5, 0, none⟩ = some (.int .i64 c) ∧ w'.cell? ⟨b5, 1, none⟩ = some (.int .i64 n5) ∧ w'.cell? ⟨b5, 2, none⟩ = some (.int .i64 s) ∧ w'.cell? ⟨b5, 3, none⟩ = some (.int .i64 u5) ∧ w'.cell? ⟨b3, 0, none⟩ = some (.slice (some ⟨bd, off, none⟩) be.length cap) ∧ w'.cell? ⟨bd, off + m * 4, none⟩ = some (.int .i64 pv.t)) 21 _ (fun _ _ h => h) (fun _ => trivial) (by kernel_rfl) ?x26s (fun hHeld hClo => ?x26r)
            case x26s => exact ⟨k0, c1, q0, q1, q2, q3, c3, e0⟩
            refine wpS_take (i := 0) (some 18) 40 (v := ?x27v) (fun _ => trivial) (by kernel_rfl) rfl (by kernel_rfl) (by kernel_rfl) (by kernel_rfl) (by kernel_rfl) rfl (Or.inl ⟨by rfl, ?x27y⟩) hHeld hClo ?x27r
            case x27y => (intro w hSw; (try dsimp only at hSw); go_simp; try with_reducible rfl)
            (intro hN; clear hClo; have hClo := hN; clear hN)
            try simp only [Act.put, List.setIfInBounds_toArray, List.set_cons_zero, List.set_cons_succ]
            refine wpS_take (i := 1) (some 19) 40 (v := ?x28v) (fun _ => trivial) (by kernel_rfl) rfl (by kernel_rfl) (by kernel_rfl) (by kernel_rfl) (by kernel_rfl) rfl (Or.inl ⟨by rfl, ?x28y⟩) hHeld hClo ?x28r
            case x28y => (intro w hSw; (try dsimp only at hSw); go_simp; try with_reducible rfl)
            (intro hN; clear hClo; have hClo := hN; clear hN)
            try simp only [Act.put, List.setIfInBounds_toArray, List.set_cons_zero, List.set_cons_succ]
            refine wpS_take (i := 2) (some 20) 40 (v := ?x29v) (fun _ => trivial) (by kernel_rfl) rfl (by kernel_rfl) (by kernel_rfl) (by kernel_rfl) (by kernel_rfl) rfl (Or.inl ⟨by rfl, ?x29y⟩) hHeld hClo ?x29r
            case x29y => (intro w hSw; (try dsimp only at hSw); go_simp; try with_reducible rfl)
            (intro hN; clear hClo; have hClo := hN; clear hN)
            try simp only [Act.put, List.setIfInBounds_toArray, List.set_cons_zero, List.set_cons_succ]
            refine wpS_take (i := 3) (some 21) 40 (v := ?x30v) (fun _ => trivial) (by kernel_rfl) rfl (by kernel_rfl) (by kernel_rfl) (by kernel_rfl) (by kernel_rfl) rfl (Or.inl ⟨by rfl, ?x30y⟩) hHeld hClo ?x30r
            case x30y => (intro w hSw; (try dsimp only at hSw); go_simp; try with_reducible rfl)
            (intro hN; clear hClo; have hClo := hN; clear hN)
            try simp only [Act.put, List.setIfInBounds_toArray, List.set_cons_zero, List.set_cons_succ]
            refine wpS_take (i := 4) (some 22) 40 (v := ?x31v) (fun _ => trivial) (by kernel_rfl) rfl (by kernel_rfl) (by kernel_rfl) (by kernel_rfl) (by kernel_rfl) rfl (Or.inl ⟨by rfl, ?x31y⟩) hHeld hClo ?x31r
            case x31y => (intro w hSw; (try dsimp only at hSw); go_simp; try with_reducible rfl)
            (intro hN; clear hClo; have hClo := hN; clear hN)
            try simp only [Act.put, List.setIfInBounds_toArray, List.set_cons_zero, List.set_cons_succ]
            refine wpS_take (i := 5) (some 23) 40 (v := ?x32v) (fun _ => trivial) (by kernel_rfl) rfl (by kernel_rfl) (by kernel_rfl) (by kernel_rfl) (by kernel_rfl) rfl (Or.inl ⟨by rfl, ?x32y⟩) hHeld hClo ?x32r
            case x32y => (intro w hSw; (try dsimp only at hSw); go_simp; try with_reducible rfl)
            (intro hN; clear hClo; have hClo := hN; clear hN)
            try simp only [Act.put, List.setIfInBounds_toArray, List.set_cons_zero, List.set_cons_succ]
            refine wpS_take (i := 6) (some 24) 40 (v := ?x33v) (fun _ => trivial) (by kernel_rfl) rfl (by kernel_rfl) (by kernel_rfl) (by kernel_rfl) (by kernel_rfl) rfl (Or.inl ⟨by rfl, ?x33y⟩) hHeld hClo ?x33r
            case x33y => (intro w hSw; (try dsimp only at hSw); go_simp; try with_reducible rfl)
            (intro hN; clear hClo; have hClo := hN; clear hN)
            try simp only [Act.put, List.setIfInBounds_toArray, List.set_cons_zero, List.set_cons_succ]
            refine wpS_take (i := 7) (some 25) 40 (v := ?x34v) (fun _ => trivial) (by kernel_rfl) rfl (by kernel_rfl) (by kernel_rfl) (by kernel_rfl) (by kernel_rfl) rfl (Or.inl ⟨by rfl, ?x34y⟩) hHeld hClo ?x34r
            case x34y => (intro w hSw; (try dsimp only at hSw); go_simp; try with_reducible rfl)
            (intro hN; clear hClo; have hClo := hN; clear hN)
            try simp only [Act.put, List.setIfInBounds_toArray, List.set_cons_zero, List.set_cons_succ]
            refine wpS_take (i := 8) (some 26) 40 (v := ?x35v) (fun _ => trivial) (by kernel_rfl) rfl (by kernel_rfl) (by kernel_rfl) (by kernel_rfl) (by kernel_rfl) rfl (Or.inl ⟨by rfl, ?x35y⟩) hHeld hClo ?x35r
            case x35y => (intro w hSw; (try dsimp only at hSw); go_simp; try with_reducible rfl)
            (intro hN; clear hClo; have hClo := hN; clear hN)
            try simp only [Act.put, List.setIfInBounds_toArray, List.set_cons_zero, List.set_cons_succ]
            refine wpS_take (i := 9) (some 27) 40 (v := ?x36v) (fun _ => trivial) (by kernel_rfl) rfl (by kernel_rfl) (by kernel_rfl) (by kernel_rfl) (by kernel_rfl) rfl (Or.inl ⟨by rfl, ?x36y⟩) hHeld hClo ?x36r
            case x36y => (intro w hSw; (try dsimp only at hSw); go_simp; try with_reducible rfl)
            (intro hN; clear hClo; have hClo := hN; clear hN)
            try simp only [Act.put, List.setIfInBounds_toArray, List.set_cons_zero, List.set_cons_succ]
            refine wpS_take (i := 10) (some 28) 40 (v := ?x37v) (fun _ => trivial) (by kernel_rfl) rfl (by kernel_rfl) (by kernel_rfl) (by kernel_rfl) (by kernel_rfl) rfl (Or.inl ⟨by rfl, ?x37y⟩) hHeld hClo ?x37r
            case x37y => (intro w hSw; (try dsimp only at hSw); go_simp; try with_reducible rfl)
            (intro hN; clear hClo; have hClo := hN; clear hN)
            try simp only [Act.put, List.setIfInBounds_toArray, List.set_cons_zero, List.set_cons_succ]
            refine wpS_take (i := 11) (some 29) 40 (v := ?x38v) (fun _ => trivial) (by kernel_rfl) rfl (by kernel_rfl) (by kernel_rfl) (by kernel_rfl) (by kernel_rfl) rfl (Or.inl ⟨by rfl, ?x38y⟩) hHeld hClo ?x38r
            case x38y => (intro w hSw; (try dsimp only at hSw); go_simp; try with_reducible rfl)
            (intro hN; clear hClo; have hClo := hN; clear hN)
            try simp only [Act.put, List.setIfInBounds_toArray, List.set_cons_zero, List.set_cons_succ]
            refine wpS_take (i := 12) (some 30) 40 (v := ?x39v) (fun _ => trivial) (by kernel_rfl) rfl (by kernel_rfl) (by kernel_rfl) (by kernel_rfl) (by kernel_rfl) rfl (Or.inl ⟨by rfl, ?x39y⟩) hHeld hClo ?x39r
            case x39y => (intro w hSw; (try dsimp only at hSw); go_simp; try with_reducible rfl)
            (intro hN; clear hClo; have hClo := hN; clear hN)
            try simp only [Act.put, List.setIfInBounds_toArray, List.set_cons_zero, List.set_cons_succ]
            refine wpS_take (i := 13) (some 31) 40 (v := ?x40v) (fun _ => trivial) (by kernel_rfl) rfl (by kernel_rfl) (by kernel_rfl) (by kernel_rfl) (by kernel_rfl) rfl (Or.inl ⟨by rfl, ?x40y⟩) hHeld hClo ?x40r
            case x40y => (intro w hSw; (try dsimp only at hSw); go_simp; try with_reducible rfl)
            (intro hN; clear hClo; have hClo := hN; clear hN)
            try simp only [Act.put, List.setIfInBounds_toArray, List.set_cons_zero, List.set_cons_succ]
            refine wpS_take (i := 14) (some 32) 40 (v := ?x41v) (fun _ => trivial) (by kernel_rfl) rfl (by kernel_rfl) (by kernel_rfl) (by kernel_rfl) (by kernel_rfl) rfl (Or.inl ⟨by rfl, ?x41y⟩) hHeld hClo ?x41r
            case x41y => (intro w hSw; (try dsimp only at hSw); go_simp; try with_reducible rfl)
            (intro hN; clear hClo; have hClo := hN; clear hN)
            try simp only [Act.put, List.setIfInBounds_toArray, List.set_cons_zero, List.set_cons_succ]
            refine wpS_take (i := 15) (some 33) 40 (v := ?x42v) (fun _ => trivial) (by kernel_rfl) rfl (by kernel_rfl) (by kernel_rfl) (by kernel_rfl) (by kernel_rfl) rfl (Or.inl ⟨by rfl, ?x42y⟩) hHeld hClo ?x42r
            case x42y => (intro w hSw; (try dsimp only at hSw); go_simp; try with_reducible rfl)
            (intro hN; clear hClo; have hClo := hN; clear hN)
            try simp only [Act.put, List.setIfInBounds_toArray, List.set_cons_zero, List.set_cons_succ]
            refine wpS_take (i := 16) (some 34) 40 (v := ?x43v) (fun _ => trivial) (by kernel_rfl) rfl (by kernel_rfl) (by kernel_rfl) (by kernel_rfl) (by kernel_rfl) rfl (Or.inl ⟨by rfl, ?x43y⟩) hHeld hClo ?x43r
            case x43y => (intro w hSw; (try dsimp only at hSw); go_simp; try with_reducible rfl)
            (intro hN; clear hClo; have hClo := hN; clear hN)
            try simp only [Act.put, List.setIfInBounds_toArray, List.set_cons_zero, List.set_cons_succ]
            refine wpS_take (i := 17) (some 35) 40 (v := ?x44v) (fun _ => trivial) (by kernel_rfl) rfl (by kernel_rfl) (by kernel_rfl) (by kernel_rfl) (by kernel_rfl) rfl (Or.inl ⟨by rfl, ?x44y⟩) hHeld hClo ?x44r
            case x44y => (intro w hSw; (try dsimp only at hSw); go_simp; try with_reducible rfl)
            (intro hN; clear hClo; have hClo := hN; clear hN)
            try simp only [Act.put, List.setIfInBounds_toArray, List.set_cons_zero, List.set_cons_succ]
            refine wpS_take (i := 18) (some 36) 40 (v := ?x45v) (fun _ => trivial) (by kernel_rfl) rfl (by kernel_rfl) (by kernel_rfl) (by kernel_rfl) (by kernel_rfl) rfl (Or.inl ⟨by rfl, ?x45y⟩) hHeld hClo ?x45r
            case x45y => (intro w hSw; (try dsimp only at hSw); go_simp; try with_reducible rfl)
            (intro hN; clear hClo; have hClo := hN; clear hN)
            try simp only [Act.put, List.setIfInBounds_toArray, List.set_cons_zero, List.set_cons_succ]
            refine wpS_take (i := 19) (some 37) 40 (v := ?x46v) (fun _ => trivial) (by kernel_rfl) rfl (by kernel_rfl) (by kernel_rfl) (by kernel_rfl) (by kernel_rfl) rfl (Or.inl ⟨by rfl, ?x46y⟩) hHeld hClo ?x46r
            case x46y => (intro w hSw; (try dsimp only at hSw); go_simp; try with_reducible rfl)
            (intro hN; clear hClo; have hClo := hN; clear hN)
            try simp only [Act.put, List.setIfInBounds_toArray, List.set_cons_zero, List.set_cons_succ]
            refine wpS_take (i := 20) (some 38) 40 (v := ?x47v) (fun _ => trivial) (by kernel_rfl) rfl (by kernel_rfl) (by kernel_rfl) (by kernel_rfl) (by kernel_rfl) rfl (Or.inl ⟨by rfl, ?x47y⟩) hHeld hClo ?x47r
            case x47y => (intro w hSw; (try dsimp only at hSw); go_simp; try with_reducible rfl)
            (intro hN; clear hClo; have hClo := hN; clear hN)
            try simp only [Act.put, List.setIfInBounds_toArray, List.set_cons_zero, List.set_cons_succ]
            refine wpS_one (i := 21) (by kernel_rfl) rfl hClo (fun K hK => ?_)
            rw [if_pos (by rfl)]
            go_simp
            refine HRR.out.mono ?_
            rintro e W3 ⟨r, rfl, hr⟩
            replace hr := Lib.hid hr
            clear c1 c3 k0 k1 k2 k3 fK zK zb1 zb3 q0 q1 q2 q3 fQ zQ hy HRR
            dsimp only
            refine hK _ _ (fun e => absurd (e.symm.trans (by kernel_rfl : _ = true)) (by decide)) ?_
            clear hK K
            intro hHeld
            (intro hN; clear hClo; have hClo := hN; clear hN)
            try simp only [Act.put, List.setIfInBounds_toArray, List.set_cons_zero, List.set_cons_succ]
            refine wpS_one (i := 22) (by kernel_rfl) rfl hClo (fun K hK => ?_)
            rw [if_pos (by rfl)]
            go_simp
            refine hK _ _ (fun e => absurd (e.symm.trans (by kernel_rfl : _ = true)) (by decide)) ?_
            clear hK K
            intro hHeld
            (intro hN; clear hClo; have hClo := hN; clear hN)
            try simp only [Act.put, List.setIfInBounds_toArray, List.set_cons_zero, List.set_cons_succ]
            refine wpS_one (i := 23) (by kernel_rfl) rfl hClo (fun K hK => ?_)
            rw [if_pos (by rfl)]
            go_simp
            refine hK _ _ (fun e => absurd (e.symm.trans (by kernel_rfl : _ = true)) (by decide)) ?_
            clear hK K
            intro hHeld
            (intro hN; clear hClo; have hClo := hN; clear hN)
            try simp only [Act.put, List.setIfInBounds_toArray, List.set_cons_zero, List.set_cons_succ]
            refine wpS_done (by kernel_rfl) ?_ _
            replace hr := hr.out
            clear hHeld hClo
            rcases hr with ⟨rfl, hJ3, hk⟩ | ⟨rfl, hJx⟩
            · replace O1 := Lib.hid (O1.out.kept rfl hk)
              replace O2 := Lib.hid (O2.out.kept rfl hk)
              replace O3 := Lib.hid (O3.out.kept rfl hk)
              replace O5 := Lib.hid (O5.out.kept hk)
              replace O7 := Lib.hid (O7.out.kept hk)
              replace OK := Lib.hid (hk.ok OK.out)
              replace HE := Lib.hid (HE.out.trans hk.bel)
              replace hbo := Nat.lt_of_lt_of_le hbo hk.bel.size
              replace hbr := Nat.lt_of_lt_of_le hbr hk.bel.size
              replace J0 := Lib.hid hJ3
              clear hk hJ3
              replace HX := Lib.hid (show (newsL c s be).map keyD = (pre ++ [(⟨c, n5, s, u5⟩ : Dn)]).map keyD ++ (d.t, d.s) :: (nwF ⟨c, 0, s, 0⟩ (decide (d.t < c)) (be.drop (i + 1))).map keyD by rw [HX.out]; simp [keyD])
              obtain ⟨n7, u7, s7⟩ := O7.out
              obtain ⟨k0, k1, k2, k3, fK, zK⟩ := own4 s7.1
              clear s7
              obtain ⟨fn, tmps, assign, body, hy, hR⟩ := HY.out (pre ++ [⟨c, n5, s, u5⟩]) ⟨d.t, n7, d.s, u7⟩ W3 J0.out (pre_lt HX.out)
              dsimp only at hy
              gi_wp2
              refine hR.mono ?_
              clear hR hy k0 k1 k2 k3 fK zK
              rintro e W4 (⟨rfl, hJ4, hk⟩ | ⟨rfl, hJx⟩)
              · replace O1 := Lib.hid (O1.out.kept rfl hk)
                replace O2 := Lib.hid (O2.out.kept rfl hk)
                replace O3 := Lib.hid (O3.out.kept rfl hk)
                replace O5 := Lib.hid (O5.out.kept hk)
                replace O7 := Lib.hid (O7.out.kept hk)
                replace OK := Lib.hid (hk.ok OK.out)
                replace HE := Lib.hid (HE.out.trans hk.bel)
                replace hbo := Nat.lt_of_lt_of_le hbo hk.bel.size
                replace hbr := Nat.lt_of_lt_of_le hbr hk.bel.size
                replace J0 := Lib.hid hJ4
                clear hk hJ4
                gi_wp2
                go_roundw
                case rel => exact ⟨i + 1, decide (d.t < c), (pre ++ [⟨c, n5, s, u5⟩]) ++ [⟨d.t, n7, d.s, u7⟩], by go_num, by omega, by rw [HX.out]; simp [keyD], fun h => by omega, fun m h => by
                  obtain rfl : m = i := by omega
                  exact ⟨d, HD.out, rfl⟩, J0.out, HE.out, O1.out, O2.out, O3.out, O5.out, OK.out, hbo, hbr⟩
                case measure => simp [intOf]; omega
              · gi_wp2
                refine bodyPost_ret (results_none rfl _ _ _) rfl ?_
                first | exact ⟨⟨_, rfl⟩, .inr ⟨_, trivial, hJx⟩⟩ | exact ⟨⟨_, rfl⟩, .inr ⟨_, hJx⟩⟩
            · gi_wp2
              refine bodyPost_ret (results_none rfl _ _ _) rfl ?_
              first | exact ⟨⟨_, rfl⟩, .inr ⟨_, trivial, hJx⟩⟩ | exact ⟨⟨_, rfl⟩, .inr ⟨_, hJx⟩⟩
          | false =>
            replace HX := Lib.hid (show (newsL c s be).map keyD = pre.map keyD ++ (d.t, d.s) :: (nwF ⟨c, 0, s, 0⟩ (decide (d.t < c)) (be.drop (i + 1))).map keyD by rw [HX.out, nwF_at HD.out, if_neg (by simp)]; rfl)
            refine wpIn_wide.2 ?_
            go_quiet (fail)
            clear c1 c3 k0 k1 k2 k3 fK zK zb1 zb3 e0 wm
            replace O1 := Lib.hid (show Saf bo br (W2.drewN nq) b1 [.int .i64 c] 3 from O1.out)
            replace O2 := Lib.hid (show Saf bo br (W2.drewN nq) b2 [.int .i64 s] 3 from O2.out)
            replace O3 := Lib.hid (show Saf bo br (W2.drewN nq) b3 [.slice (some ⟨bd, off, none⟩) be.length cap] 22 from O3.out)
            replace O5 := Lib.hid (show Saf2 bo br (W2.drewN nq) b5 c s from O5.out)
            replace O7 := Lib.hid (show Saf2 bo br (W2.drewN nq) b7 d.t d.s from O7.out)
            replace OK := Lib.hid (show RowOk bo (W2.drewN nq) from OK.out)
            replace HE := Lib.hid (show Below wE.heap.size wE (W2.drewN nq) from HE.out.trans ⟨rfl, rfl, rfl, Nat.le_refl _, fun _ _ => rfl⟩)
            replace J0 := Lib.hid (HJ.out pre W2 (W2.drewN nq) none J0.out ⟨rfl, rfl, rfl, Nat.le_refl _, fun _ _ _ => rfl⟩ (fun r e => by cases e))
            replace hbo : bo < (W2.drewN nq).heap.size := hbo
            replace hbr : br < (W2.drewN nq).heap.size := hbr
            generalize W2.drewN nq = W3 at O1 O2 O3 O5 O7 OK HE J0 hbo hbr  ⊢
            obtain ⟨n7, u7, s7⟩ := O7.out
            obtain ⟨k0, k1, k2, k3, fK, zK⟩ := own4 s7.1
            clear s7
            obtain ⟨fn, tmps, assign, body, hy, hR⟩ := HY.out pre ⟨d.t, n7, d.s, u7⟩ W3 J0.out (pre_lt HX.out)
            dsimp only at hy
            gi_wp2
            refine hR.mono ?_
            clear hR hy k0 k1 k2 k3 fK zK
            rintro e W4 (⟨rfl, hJ4, hk⟩ | ⟨rfl, hJx⟩)
            · replace O1 := Lib.hid (O1.out.kept rfl hk)
              replace O2 := Lib.hid (O2.out.kept rfl hk)
              replace O3 := Lib.hid (O3.out.kept rfl hk)
              replace O5 := Lib.hid (O5.out.kept hk)
              replace O7 := Lib.hid (O7.out.kept hk)
              replace OK := Lib.hid (hk.ok OK.out)
              replace HE := Lib.hid (HE.out.trans hk.bel)
              replace hbo := Nat.lt_of_lt_of_le hbo hk.bel.size
              replace hbr := Nat.lt_of_lt_of_le hbr hk.bel.size
              replace J0 := Lib.hid hJ4
              clear hk hJ4
              gi_wp2
              go_roundw
              case rel => exact ⟨i + 1, decide (d.t < c), pre ++ [⟨d.t, n7, d.s, u7⟩], by go_num, by omega, by rw [HX.out]; simp [keyD], fun h => by omega, fun m h => by
                obtain rfl : m = i := by omega
                exact ⟨d, HD.out, rfl⟩, J0.out, HE.out, O1.out, O2.out, O3.out, O5.out, OK.out, hbo, hbr⟩
              case measure => simp [intOf]; omega
            · gi_wp2
              refine bodyPost_ret (results_none rfl _ _ _) rfl ?_
              first | exact ⟨⟨_, rfl⟩, .inr ⟨_, trivial, hJx⟩⟩ | exact ⟨⟨_, rfl⟩, .inr ⟨_, hJx⟩⟩
    · obtain rfl : i = be.length := by omega
      have c1 := O1.out.1.cell (i := 0) rfl
      have c3 := O3.out.1.cell (i := 0) rfl
      replace HX := Lib.hid (show (newsL c s be).map keyD = pre.map keyD ++ (if b then [(c, s)] else []) by rw [HX.out, nwF_end (Nat.le_refl _)]; cases b <;> rfl)
      gi_wp2
      refine wpIn_wide.2 ?_
      by_cases hi0 : be.length = 0
      · obtain rfl : b = true := HB0.out hi0
        have k4 : ((be.length : Int) == 0) = true := by simp [hi0]
        go_quiet (fail)
        clear c1 c3
        replace O5 := Lib.hid (show Saf2 bo br (wr.drewN nq) b5 c s from O5.out)
        replace J0 := Lib.hid (HJ.out pre wr (wr.drewN nq) none J0.out ⟨rfl, rfl, rfl, Nat.le_refl _, fun _ _ _ => rfl⟩ (fun r e => by cases e))
        generalize wr.drewN nq = W3 at O5 J0 ⊢
        obtain ⟨n5, u5, s5⟩ := O5.out
        obtain ⟨q0, q1, q2, q3, fQ, zQ⟩ := own4 s5.1
        clear s5
        obtain ⟨fn, tmps, assign, body, hy, hR⟩ := HY.out pre ⟨c, n5, s, u5⟩ W3 J0.out (pre_lt (x := (c, s)) (rest := []) HX.out)
        dsimp only at hy
        gi_wp2
        refine hR.mono ?_
        clear hR hy
        rintro e W4 (⟨rfl, hJ4, hk⟩ | ⟨rfl, hJx⟩)
        · gi_wp2
          go_end0
          exact ⟨⟨_, rfl⟩, .inl ⟨_, by simp [HX.out, keyD], hJ4⟩⟩
        · gi_wp2
          go_end0
          first | exact ⟨⟨_, rfl⟩, .inr ⟨_, trivial, hJx⟩⟩ | exact ⟨⟨_, rfl⟩, .inr ⟨_, hJx⟩⟩
      · obtain ⟨m, hm⟩ : ∃ m, be.length = m + 1 := ⟨be.length - 1, by omega⟩
        obtain ⟨pv, hpv, hb⟩ := HBB.out m hm
        obtain ⟨pv', b', off', hpv', e', _, _, e0, _⟩ := SL.out.at4 HE.out (i := m) (by omega)
        cases e'
        obtain rfl : pv = pv' := by rw [hpv] at hpv'; exact Option.some.inj hpv'
        have m0 : (0 : Int) ≤ (m : Int) := Int.natCast_nonneg _
        have m1 : (m : Int) < (be.length : Int) := by omega
        clear hpv hpv' 
        have k4 : ((be.length : Int) == 0) = false := beq_eq_false_iff_ne.2 (by omega)
        have wm : IntKind.i64.wrap ((be.length : Int) - 1) = (m : Int) := by rw [IntWalk.i64_in _ (by omega)]; omega
        clear hm hi0
        cases b with
        | true =>
          go_quiet (fail)
          clear c1 c3 e0 wm
          replace O5 := Lib.hid (show Saf2 bo br (wr.drewN nq) b5 c s from O5.out)
          replace J0 := Lib.hid (HJ.out pre wr (wr.drewN nq) none J0.out ⟨rfl, rfl, rfl, Nat.le_refl _, fun _ _ _ => rfl⟩ (fun r e => by cases e))
          generalize wr.drewN nq = W3 at O5 J0 ⊢
          obtain ⟨n5, u5, s5⟩ := O5.out
          obtain ⟨q0, q1, q2, q3, fQ, zQ⟩ := own4 s5.1
          clear s5
          obtain ⟨fn, tmps, assign, body, hy, hR⟩ := HY.out pre ⟨c, n5, s, u5⟩ W3 J0.out (pre_lt (x := (c, s)) (rest := []) HX.out)
          dsimp only at hy
          gi_wp2
          refine hR.mono ?_
          clear hR hy
          rintro e W4 (⟨rfl, hJ4, hk⟩ | ⟨rfl, hJx⟩)
          · gi_wp2
            go_end0
            exact ⟨⟨_, rfl⟩, .inl ⟨_, by simp [HX.out, keyD], hJ4⟩⟩
          · gi_wp2
            go_end0
            first | exact ⟨⟨_, rfl⟩, .inr ⟨_, trivial, hJx⟩⟩ | exact ⟨⟨_, rfl⟩, .inr ⟨_, hJx⟩⟩
        | false =>
        go_quiet (fail)
        gi_wp2
        go_end0
        exact ⟨⟨_, rfl⟩, .inl ⟨pre, by simp [HX.out], HJ.out pre wr (wr.drewN nq) none J0.out ⟨rfl, rfl, rfl, Nat.le_refl _, fun _ _ _ => rfl⟩ (fun r e => by cases e)⟩⟩

set_option linter.unusedVariables false in
set_option maxRecDepth 100000 in
set_option maxHeartbeats 2000000 in
theorem news_any (p : Option Addr) (m cap : Nat) (c s : Int) (w : World) : Calls Try.prog 29 #[.int .i64 c, .int .i64 s, .slice p m cap] w fun e w' => e = .returned (.func (.func 38) #[] #[.pointer (some ⟨w.heap.size, 0, none⟩), .pointer (some ⟨w.heap.size + 1, 0, none⟩), .pointer (some ⟨w.heap.size + 2, 0, none⟩)]) ∧
    w' = ((w.alloc (.cells #[.int .i64 c] 3)).alloc (.cells #[.int .i64 s] 3)).alloc (.cells #[.slice p m cap] 22) := by
  go_enter Try.func29, Try.ntmps29
  go_wp2
  all_goals (go_ret; exact ⟨rfl, rfl⟩)

/-- The iterator's contract. -/
theorem news_stops (n b1 b2 b3 bo br : Nat) (vb : Value) (be : List Dn) (c s : Int) (wE w : World) (sl : SlD wE vb be) (hE : Below wE.heap.size wE w) (o1 : Saf bo br w b1 [.int .i64 c] 3) (o2 : Saf bo br w b2 [.int .i64 s] 3) (o3 : Saf bo br w b3 [vb] 22)
    (ok : RowOk bo w) (hbo : bo < w.heap.size) (hbr : br < w.heap.size) (hn : 1 ≤ n) :
    SeqStopsK Fence.wide n Try.prog 38 #[.pointer (some ⟨b1, 0, none⟩), .pointer (some ⟨b2, 0, none⟩), .pointer (some ⟨b3, 0, none⟩)] (fun x : Dn => #[.agg #[.int .i64 x.t, .int .i64 x.n, .int .i64 x.s, .int .i64 x.u]]) (KpL wE.heap.size bo br) (fun xs => xs.map keyD = (newsL c s be).map keyD) (fun _ => True) (newsL c s be).length w := by
  intro l J Jx W hW hJ _ hY h0
  exact news1_in n l b1 b2 b3 bo br vb be c s wE sl J Jx W hJ hY (hE.trans (hW.mono hE.size)) (o1.below hbo hW) (o2.below hbo hW) (o3.below hbo hW) (ok.below hbo hW) (Nat.lt_of_lt_of_le hbo hW.size) (Nat.lt_of_lt_of_le hbr hW.size) h0 hn

end Go.Proofs.Ytheifmdaladfdaa
