/- head() of the laws of chapter 12. -/
import Derived.Test.YtdmadnoijhmbcaaAdd12
import Derived.Test.YtdmadnoijhmbcaaSam12
import Derived.Deep.DeepCutAuto
namespace Go.Proofs.Ytdmadnoijhmbcaa
open Go.RowKit

theorem ha1 : auE 3 4 [] [] [] ⟨2, 5, 0, 7⟩ = 0 := by decide
theorem ha2 : agE 3 4 [⟨2, 5, 0, 7⟩] [] [] ⟨2, 6, 1, 0, 0⟩ = 5 := by decide
theorem ha3 : agE 3 4 [] [] [⟨3, 1, 0⟩] ⟨3, 9, 2, 7, 15⟩ = 0 := by decide
theorem ha4 : auE 3 4 [⟨2, 5, 0, 7⟩] [] [] ⟨4, 5, 0, 0⟩ = 1 := by decide

set_option linter.unusedSimpArgs false in
set_option linter.unusedVariables false in
set_option maxRecDepth 100000 in
set_option maxHeartbeats 2000000 in
theorem head_true (w : World) : Calls Try.prog 10 #[] w fun e w' => e = .returned (.bool true) ∧ Below w.heap.size w w' := by
  go_enter Try.func10, Try.ntmps10
  go_wp2_with fail
  refine (layout_any _).mono ?_
  rintro e w1 ⟨rfl, hb⟩
  have bel := belowTo (Below.refl w.heap.size w) hb (by simp)
  clear hb
  go_wp2_with fail
  refine (lcell_any 2 5 _).mono ?_
  rintro e w2 ⟨rfl, hb⟩
  replace bel := belowTo bel hb (by exact bel.size)
  clear hb
  go_wp2_with fail
  refine (addu_lit (.slice none 0 0) (.slice none 0 0) (.slice none 0 0) [] [] [] 3 4 _ (slt_nil0 _ _) (slt_nil0 _ _) (slt_nil0 _ _) ⟨2, 5, 0, 7⟩ (by decide) (by decide) (by decide) 0 ha1).mono ?_
  rintro e w3 ⟨va1, va2, va3, rfl, z1, z2, z3, hb⟩
  replace bel := belowTo bel hb (by exact bel.size)
  clear hb
  have FU := Lib.hid (show SlU w3 va1 [⟨2, 5, 0, 7⟩] from z1)
  have FG := Lib.hid (show SlG w3 va2 [] from z2)
  have FA := Lib.hid (show SlA w3 va3 [] from z3)
  clear z1 z2 z3
  obtain ⟨pva1, cva1, f0, _, _, _⟩ := FU.out.form 1 rfl
  subst f0
  obtain ⟨pva2, cva2, f0, _, _, _⟩ := FG.out.form 0 rfl
  subst f0
  obtain ⟨pva3, cva3, f0, _, _, _⟩ := FA.out.form 0 rfl
  subst f0
  go_wp2_with fail
  have oA : Own (w3.alloc (Obj.cells #[.slice pva1 1 cva1, .slice pva2 0 cva2, .slice pva3 0 cva3] 26)) w3.heap.size [.slice pva1 1 cva1, .slice pva2 0 cva2, .slice pva3 0 cva3] 26 := own_at _ _ rfl
  replace FU := Lib.hid (FU.out.below (belowNew w3 (Obj.cells #[.slice pva1 1 cva1, .slice pva2 0 cva2, .slice pva3 0 cva3] 26)))
  replace FG := Lib.hid (FG.out.below (belowNew w3 (Obj.cells #[.slice pva1 1 cva1, .slice pva2 0 cva2, .slice pva3 0 cva3] 26)))
  replace FA := Lib.hid (FA.out.below (belowNew w3 (Obj.cells #[.slice pva1 1 cva1, .slice pva2 0 cva2, .slice pva3 0 cva3] 26)))
  replace bel := bel.alloc bel.size (Obj.cells #[.slice pva1 1 cva1, .slice pva2 0 cva2, .slice pva3 0 cva3] 26)
  generalize w3.alloc (Obj.cells #[.slice pva1 1 cva1, .slice pva2 0 cva2, .slice pva3 0 cva3] 26) = w4 at oA FU FG FA bel ⊢
  obtain ⟨cA0, cA1, cA2, fA, zA⟩ := own3 oA
  go_wp2_with fail
  go_cut [3, 4] (fun s1 s2 wx => ∃ bZ : Nat, s1 = .pointer (some ⟨bZ, 0, none⟩) ∧ s2 = .int .i64 5 ∧ Below w4.heap.size w4 wx)
  case first =>
    have OAa0 := Lib.hid oA.drew
    have BBa0 := Lib.hid (Below.refl w4.heap.size w4).drew
    have LE := Lib.hid (Nat.le_refl w4.heap.size)
    have FUa0 := Lib.hid (FU.out.below (Below.refl _ _).drew)
    have FGa0 := Lib.hid (FG.out.below (Below.refl _ _).drew)
    have FAa0 := Lib.hid (FA.out.below (Below.refl _ _).drew)
    clear oA cA0 cA1 cA2 fA zA
    clear bel FU FG FA
    obtain ⟨ha00, ha01, ha02, _, _⟩ := own3 OAa0.out
    refine region_H 11 #[false, false, false, false, false, false, false, false, false, false, false] (by kernel_rfl) (by kernel_rfl) (fun w' => w'.cell? ⟨w3.heap.size, 0, none⟩ = some (.slice pva1 1 cva1) ∧ w'.cell? ⟨w3.heap.size, 1, none⟩ = some (.slice pva2 0 cva2) ∧ w'.cell? ⟨w3.heap.size, 2, none⟩ = some (.slice pva3 0 cva3)) (by kernel_rfl) ?x1s (fun hHeld => ?x1r)
    case x1s => exact ⟨ha00, ha01, ha02⟩
    refine wpH_take (i := 0) (some 18) (v := ?x2v) rfl (by kernel_rfl) (by kernel_rfl) (by kernel_rfl) rfl (fun _ _ _ h => h) (Or.inl ⟨by rfl, ?x2y⟩) hHeld ?x2r
    case x2y => (intro w hSw; (try dsimp only at hSw); go_simp; try with_reducible rfl)
    try simp only [Act.put, List.setIfInBounds_toArray, List.set_cons_zero, List.set_cons_succ]
    refine wpAnyH_ready (rs := [1, 8]) (by kernel_rfl) (by simp) (AllReadyH.cons rfl (fun K hK => ?x3a) (AllReadyH.cons rfl (fun K hK => ?x3b) AllReadyH.nil))
    case x3a =>
      rw [if_pos (by rfl)]
      go_simp
      refine (layout_any _).mono ?_
      rintro e wa1 ⟨rfl, hbb⟩
      have OAa1 := Lib.hid (OAa0.out.below hbb)
      have BBa1 := Lib.hid (belowTo BBa0.out hbb BBa0.out.size)
      have FUa1 := Lib.hid (FUa0.out.below hbb)
      have FGa1 := Lib.hid (FGa0.out.below hbb)
      have FAa1 := Lib.hid (FAa0.out.below hbb)
      clear hbb
      obtain ⟨ha10, ha11, ha12, _, _⟩ := own3 OAa1.out
      refine hK.out _ _ (⟨ha10, ha11, ha12⟩) ?_
      clear hK K hHeld
      intro hHeld
      try simp only [Act.put, List.setIfInBounds_toArray, List.set_cons_zero, List.set_cons_succ]
      refine wpAnyH_ready (rs := [2, 8]) (by kernel_rfl) (by simp) (AllReadyH.cons rfl (fun K hK => ?x4a) (AllReadyH.cons rfl (fun K hK => ?x4b) AllReadyH.nil))
      case x4a =>
        rw [if_pos (by rfl)]
        go_simp
        refine (lcell_any 2 6 _).mono ?_
        rintro e wa2 ⟨rfl, hbb⟩
        have OAa2 := Lib.hid (OAa1.out.below hbb)
        have BBa2 := Lib.hid (belowTo BBa1.out hbb BBa1.out.size)
        have FUa2 := Lib.hid (FUa1.out.below hbb)
        have FGa2 := Lib.hid (FGa1.out.below hbb)
        have FAa2 := Lib.hid (FAa1.out.below hbb)
        clear hbb
        obtain ⟨ha20, ha21, ha22, _, _⟩ := own3 OAa2.out
        refine hK.out _ _ (⟨ha20, ha21, ha22⟩) ?_
        clear hK K hHeld
        intro hHeld
        try simp only [Act.put, List.setIfInBounds_toArray, List.set_cons_zero, List.set_cons_succ]
        refine wpH_take (i := 3) (some 21) (v := ?x5v) rfl (by kernel_rfl) (by kernel_rfl) (by kernel_rfl) rfl (fun _ _ _ h => h) (Or.inl ⟨by rfl, ?x5y⟩) hHeld ?x5r
        case x5y => (intro w hSw; (try dsimp only at hSw); go_simp; try with_reducible rfl)
        try simp only [Act.put, List.setIfInBounds_toArray, List.set_cons_zero, List.set_cons_succ]
        refine wpAnyH_ready (rs := [4, 8]) (by kernel_rfl) (by simp) (AllReadyH.cons rfl (fun K hK => ?x6a) (AllReadyH.cons rfl (fun K hK => ?x6b) AllReadyH.nil))
        case x6a =>
          rw [if_pos (by rfl)]
          go_simp
          refine (addg_lit _ _ _ [⟨2, 5, 0, 7⟩] [] [] 3 4 _ FUa2.out FGa2.out FAa2.out ⟨2, 6, 1, 0, 0⟩ (by decide) (by decide) (by decide) 5 ha2).mono ?_
          rintro e wa3 ⟨vz1, vz2, vz3, rfl, z1, z2, z3, hbb⟩
          obtain ⟨pz1, nz1, cz1, f0⟩ := z1.slc
          subst f0
          clear z1
          obtain ⟨pz2, nz2, cz2, f0⟩ := z2.slc
          subst f0
          clear z2
          obtain ⟨pz3, nz3, cz3, f0⟩ := z3.slc
          subst f0
          clear z3
          have OAa3 := Lib.hid (OAa2.out.below hbb)
          have BBa3 := Lib.hid (belowTo BBa2.out hbb BBa2.out.size)
          have FUa3 := Lib.hid (FUa2.out.below hbb)
          have FGa3 := Lib.hid (FGa2.out.below hbb)
          have FAa3 := Lib.hid (FAa2.out.below hbb)
          clear hbb
          obtain ⟨ha30, ha31, ha32, _, _⟩ := own3 OAa3.out
          refine hK.out _ _ (⟨ha30, ha31, ha32⟩) ?_
          clear hK K hHeld
          intro hHeld
          try simp only [Act.put, List.setIfInBounds_toArray, List.set_cons_zero, List.set_cons_succ]
          refine wpH_take (i := 5) (some 17) (v := ?x7v) rfl (by kernel_rfl) (by kernel_rfl) (by kernel_rfl) rfl (fun _ _ _ h => h) (Or.inl ⟨by rfl, ?x7y⟩) hHeld ?x7r
          case x7y => (intro w hSw; (try dsimp only at hSw); go_simp; try with_reducible rfl)
          try simp only [Act.put, List.setIfInBounds_toArray, List.set_cons_zero, List.set_cons_succ]
          refine wpH_take (i := 6) (some 23) (v := ?x8v) rfl (by kernel_rfl) (by kernel_rfl) (by kernel_rfl) rfl (fun _ _ _ h => h) (Or.inl ⟨by rfl, ?x8y⟩) hHeld ?x8r
          case x8y => (intro w hSw; (try dsimp only at hSw); go_simp; try with_reducible rfl)
          try simp only [Act.put, List.setIfInBounds_toArray, List.set_cons_zero, List.set_cons_succ]
          refine wpH_take (i := 7) (some 24) (v := ?x9v) rfl (by kernel_rfl) (by kernel_rfl) (by kernel_rfl) rfl (fun _ _ _ h => h) (Or.inl ⟨by rfl, ?x9y⟩) hHeld ?x9r
          case x9y => (intro w hSw; (try dsimp only at hSw); go_simp; try with_reducible rfl)
          try simp only [Act.put, List.setIfInBounds_toArray, List.set_cons_zero, List.set_cons_succ]
          refine wpH_one (i := 8) (by kernel_rfl) rfl (fun K hK => ?_)
          rw [if_pos (by rfl)]
          go_simp
          have ONa4 := Lib.hid (show Own (wa3.alloc (.cells #[.slice none 0 0, .slice none 0 0, .slice none 0 0] 26)) wa3.heap.size [.slice none 0 0, .slice none 0 0, .slice none 0 0] 26 from own_at _ _ rfl)
          have OAa4 := Lib.hid (OAa3.out.alloc (.cells #[.slice none 0 0, .slice none 0 0, .slice none 0 0] 26))
          have BBa4 := Lib.hid (BBa3.out.alloc BBa3.out.size (.cells #[.slice none 0 0, .slice none 0 0, .slice none 0 0] 26))
          have FUa4 := Lib.hid (FUa3.out.below (belowNew _ (.cells #[.slice none 0 0, .slice none 0 0, .slice none 0 0] 26)))
          have FGa4 := Lib.hid (FGa3.out.below (belowNew _ (.cells #[.slice none 0 0, .slice none 0 0, .slice none 0 0] 26)))
          have FAa4 := Lib.hid (FAa3.out.below (belowNew _ (.cells #[.slice none 0 0, .slice none 0 0, .slice none 0 0] 26)))
          have NE := Lib.hid (show ¬ w3.heap.size = wa3.heap.size from by have := OAa3.out.lt; omega)
          obtain ⟨bN, hbN⟩ : ∃ bN, wa3.heap.size = bN := ⟨_, rfl⟩
          have LN := Lib.hid (show w4.heap.size ≤ bN from by rw [← hbN]; exact BBa3.out.size)
          rw [hbN] at ONa4 NE
          try rw [hbN]
          clear hbN
          generalize (wa3.alloc (.cells #[.slice none 0 0, .slice none 0 0, .slice none 0 0] 26)) = wa4 at ONa4 OAa4 BBa4 FUa4 FGa4 FAa4 ⊢
          obtain ⟨ha40, ha41, ha42, _, _⟩ := own3 OAa4.out
          obtain ⟨ga40, ga41, ga42, _, _⟩ := own3 ONa4.out
          refine hK.out _ _ (⟨ha40, ha41, ha42⟩) ?_
          clear hK K hHeld
          intro hHeld
          try simp only [Act.put, List.setIfInBounds_toArray, List.set_cons_zero, List.set_cons_succ]
          refine wpH_one (i := 9) (by kernel_rfl) rfl (fun K hK => ?_)
          rw [if_pos (by rfl)]
          go_simp
          have NE2 := NE.out
          refine hK.out _ _ (⟨(far3 (fun e => NE2 e.symm)).trans ha40, (far3 (fun e => NE2 e.symm)).trans ha41, (far3 (fun e => NE2 e.symm)).trans ha42⟩) ?_
          clear hK K hHeld
          intro hHeld
          try simp only [Act.put, List.setIfInBounds_toArray, List.set_cons_zero, List.set_cons_succ]
          refine wpH_take (i := 10) (some 4) (v := ?x10v) rfl (by kernel_rfl) (by kernel_rfl) (by kernel_rfl) rfl (fun _ _ _ h => h) (Or.inl ⟨by rfl, ?x10y⟩) hHeld ?x10r
          case x10y => (intro w hSw; (try dsimp only at hSw); go_simp; try with_reducible rfl)
          try simp only [Act.put, List.setIfInBounds_toArray, List.set_cons_zero, List.set_cons_succ]
          refine wpAnyH_done (by kernel_rfl) ?_ _
          go_wp2_with fail
          go_meet
          exact ⟨_, rfl, rfl, below_set3 BBa4.out LN.out⟩
        case x6b =>
          rw [if_pos (by rfl)]
          go_simp
          have ONa6 := Lib.hid (show Own (wa2.alloc (.cells #[.slice none 0 0, .slice none 0 0, .slice none 0 0] 26)) wa2.heap.size [.slice none 0 0, .slice none 0 0, .slice none 0 0] 26 from own_at _ _ rfl)
          have OAa6 := Lib.hid (OAa2.out.alloc (.cells #[.slice none 0 0, .slice none 0 0, .slice none 0 0] 26))
          have BBa6 := Lib.hid (BBa2.out.alloc BBa2.out.size (.cells #[.slice none 0 0, .slice none 0 0, .slice none 0 0] 26))
          have FUa6 := Lib.hid (FUa2.out.below (belowNew _ (.cells #[.slice none 0 0, .slice none 0 0, .slice none 0 0] 26)))
          have FGa6 := Lib.hid (FGa2.out.below (belowNew _ (.cells #[.slice none 0 0, .slice none 0 0, .slice none 0 0] 26)))
          have FAa6 := Lib.hid (FAa2.out.below (belowNew _ (.cells #[.slice none 0 0, .slice none 0 0, .slice none 0 0] 26)))
          have NE := Lib.hid (show ¬ w3.heap.size = wa2.heap.size from by have := OAa2.out.lt; omega)
          obtain ⟨bN, hbN⟩ : ∃ bN, wa2.heap.size = bN := ⟨_, rfl⟩
          have LN := Lib.hid (show w4.heap.size ≤ bN from by rw [← hbN]; exact BBa2.out.size)
          rw [hbN] at ONa6 NE
          try rw [hbN]
          clear hbN
          generalize (wa2.alloc (.cells #[.slice none 0 0, .slice none 0 0, .slice none 0 0] 26)) = wa6 at ONa6 OAa6 BBa6 FUa6 FGa6 FAa6 ⊢
          obtain ⟨ha60, ha61, ha62, _, _⟩ := own3 OAa6.out
          obtain ⟨ga60, ga61, ga62, _, _⟩ := own3 ONa6.out
          refine hK.out _ _ (⟨ha60, ha61, ha62⟩) ?_
          clear hK K hHeld
          intro hHeld
          try simp only [Act.put, List.setIfInBounds_toArray, List.set_cons_zero, List.set_cons_succ]
          refine wpH_one (i := 4) (by kernel_rfl) rfl (fun K hK => ?_)
          rw [if_pos (by rfl)]
          go_simp
          refine (addg_lit _ _ _ [⟨2, 5, 0, 7⟩] [] [] 3 4 _ FUa6.out FGa6.out FAa6.out ⟨2, 6, 1, 0, 0⟩ (by decide) (by decide) (by decide) 5 ha2).mono ?_
          rintro e wa7 ⟨vz1, vz2, vz3, rfl, z1, z2, z3, hbb⟩
          obtain ⟨pz1, nz1, cz1, f0⟩ := z1.slc
          subst f0
          clear z1
          obtain ⟨pz2, nz2, cz2, f0⟩ := z2.slc
          subst f0
          clear z2
          obtain ⟨pz3, nz3, cz3, f0⟩ := z3.slc
          subst f0
          clear z3
          have OAa7 := Lib.hid (OAa6.out.below hbb)
          have ONa7 := Lib.hid (ONa6.out.below hbb)
          have BBa7 := Lib.hid (belowTo BBa6.out hbb BBa6.out.size)
          have FUa7 := Lib.hid (FUa6.out.below hbb)
          have FGa7 := Lib.hid (FGa6.out.below hbb)
          have FAa7 := Lib.hid (FAa6.out.below hbb)
          clear hbb
          obtain ⟨ha70, ha71, ha72, _, _⟩ := own3 OAa7.out
          obtain ⟨ga70, ga71, ga72, _, _⟩ := own3 ONa7.out
          refine hK.out _ _ (⟨ha70, ha71, ha72⟩) ?_
          clear hK K hHeld
          intro hHeld
          try simp only [Act.put, List.setIfInBounds_toArray, List.set_cons_zero, List.set_cons_succ]
          refine wpH_take (i := 5) (some 17) (v := ?x11v) rfl (by kernel_rfl) (by kernel_rfl) (by kernel_rfl) rfl (fun _ _ _ h => h) (Or.inl ⟨by rfl, ?x11y⟩) hHeld ?x11r
          case x11y => (intro w hSw; (try dsimp only at hSw); go_simp; try with_reducible rfl)
          try simp only [Act.put, List.setIfInBounds_toArray, List.set_cons_zero, List.set_cons_succ]
          refine wpH_take (i := 6) (some 23) (v := ?x12v) rfl (by kernel_rfl) (by kernel_rfl) (by kernel_rfl) rfl (fun _ _ _ h => h) (Or.inl ⟨by rfl, ?x12y⟩) hHeld ?x12r
          case x12y => (intro w hSw; (try dsimp only at hSw); go_simp; try with_reducible rfl)
          try simp only [Act.put, List.setIfInBounds_toArray, List.set_cons_zero, List.set_cons_succ]
          refine wpH_take (i := 7) (some 24) (v := ?x13v) rfl (by kernel_rfl) (by kernel_rfl) (by kernel_rfl) rfl (fun _ _ _ h => h) (Or.inl ⟨by rfl, ?x13y⟩) hHeld ?x13r
          case x13y => (intro w hSw; (try dsimp only at hSw); go_simp; try with_reducible rfl)
          try simp only [Act.put, List.setIfInBounds_toArray, List.set_cons_zero, List.set_cons_succ]
          refine wpH_one (i := 9) (by kernel_rfl) rfl (fun K hK => ?_)
          rw [if_pos (by rfl)]
          go_simp
          have NE2 := NE.out
          refine hK.out _ _ (⟨(far3 (fun e => NE2 e.symm)).trans ha70, (far3 (fun e => NE2 e.symm)).trans ha71, (far3 (fun e => NE2 e.symm)).trans ha72⟩) ?_
          clear hK K hHeld
          intro hHeld
          try simp only [Act.put, List.setIfInBounds_toArray, List.set_cons_zero, List.set_cons_succ]
          refine wpH_take (i := 10) (some 4) (v := ?x14v) rfl (by kernel_rfl) (by kernel_rfl) (by kernel_rfl) rfl (fun _ _ _ h => h) (Or.inl ⟨by rfl, ?x14y⟩) hHeld ?x14r
          case x14y => (intro w hSw; (try dsimp only at hSw); go_simp; try with_reducible rfl)
          try simp only [Act.put, List.setIfInBounds_toArray, List.set_cons_zero, List.set_cons_succ]
          refine wpAnyH_done (by kernel_rfl) ?_ _
          go_wp2_with fail
          go_meet
          exact ⟨_, rfl, rfl, below_set3 BBa7.out LN.out⟩
      case x4b =>
        rw [if_pos (by rfl)]
        go_simp
        have ONa9 := Lib.hid (show Own (wa1.alloc (.cells #[.slice none 0 0, .slice none 0 0, .slice none 0 0] 26)) wa1.heap.size [.slice none 0 0, .slice none 0 0, .slice none 0 0] 26 from own_at _ _ rfl)
        have OAa9 := Lib.hid (OAa1.out.alloc (.cells #[.slice none 0 0, .slice none 0 0, .slice none 0 0] 26))
        have BBa9 := Lib.hid (BBa1.out.alloc BBa1.out.size (.cells #[.slice none 0 0, .slice none 0 0, .slice none 0 0] 26))
        have FUa9 := Lib.hid (FUa1.out.below (belowNew _ (.cells #[.slice none 0 0, .slice none 0 0, .slice none 0 0] 26)))
        have FGa9 := Lib.hid (FGa1.out.below (belowNew _ (.cells #[.slice none 0 0, .slice none 0 0, .slice none 0 0] 26)))
        have FAa9 := Lib.hid (FAa1.out.below (belowNew _ (.cells #[.slice none 0 0, .slice none 0 0, .slice none 0 0] 26)))
        have NE := Lib.hid (show ¬ w3.heap.size = wa1.heap.size from by have := OAa1.out.lt; omega)
        obtain ⟨bN, hbN⟩ : ∃ bN, wa1.heap.size = bN := ⟨_, rfl⟩
        have LN := Lib.hid (show w4.heap.size ≤ bN from by rw [← hbN]; exact BBa1.out.size)
        rw [hbN] at ONa9 NE
        try rw [hbN]
        clear hbN
        generalize (wa1.alloc (.cells #[.slice none 0 0, .slice none 0 0, .slice none 0 0] 26)) = wa9 at ONa9 OAa9 BBa9 FUa9 FGa9 FAa9 ⊢
        obtain ⟨ha90, ha91, ha92, _, _⟩ := own3 OAa9.out
        obtain ⟨ga90, ga91, ga92, _, _⟩ := own3 ONa9.out
        refine hK.out _ _ (⟨ha90, ha91, ha92⟩) ?_
        clear hK K hHeld
        intro hHeld
        try simp only [Act.put, List.setIfInBounds_toArray, List.set_cons_zero, List.set_cons_succ]
        refine wpH_one (i := 2) (by kernel_rfl) rfl (fun K hK => ?_)
        rw [if_pos (by rfl)]
        go_simp
        refine (lcell_any 2 6 _).mono ?_
        rintro e wa10 ⟨rfl, hbb⟩
        have OAa10 := Lib.hid (OAa9.out.below hbb)
        have ONa10 := Lib.hid (ONa9.out.below hbb)
        have BBa10 := Lib.hid (belowTo BBa9.out hbb BBa9.out.size)
        have FUa10 := Lib.hid (FUa9.out.below hbb)
        have FGa10 := Lib.hid (FGa9.out.below hbb)
        have FAa10 := Lib.hid (FAa9.out.below hbb)
        clear hbb
        obtain ⟨ha100, ha101, ha102, _, _⟩ := own3 OAa10.out
        obtain ⟨ga100, ga101, ga102, _, _⟩ := own3 ONa10.out
        refine hK.out _ _ (⟨ha100, ha101, ha102⟩) ?_
        clear hK K hHeld
        intro hHeld
        try simp only [Act.put, List.setIfInBounds_toArray, List.set_cons_zero, List.set_cons_succ]
        refine wpH_take (i := 3) (some 21) (v := ?x15v) rfl (by kernel_rfl) (by kernel_rfl) (by kernel_rfl) rfl (fun _ _ _ h => h) (Or.inl ⟨by rfl, ?x15y⟩) hHeld ?x15r
        case x15y => (intro w hSw; (try dsimp only at hSw); go_simp; try with_reducible rfl)
        try simp only [Act.put, List.setIfInBounds_toArray, List.set_cons_zero, List.set_cons_succ]
        refine wpH_one (i := 4) (by kernel_rfl) rfl (fun K hK => ?_)
        rw [if_pos (by rfl)]
        go_simp
        refine (addg_lit _ _ _ [⟨2, 5, 0, 7⟩] [] [] 3 4 _ FUa10.out FGa10.out FAa10.out ⟨2, 6, 1, 0, 0⟩ (by decide) (by decide) (by decide) 5 ha2).mono ?_
        rintro e wa11 ⟨vz1, vz2, vz3, rfl, z1, z2, z3, hbb⟩
        obtain ⟨pz1, nz1, cz1, f0⟩ := z1.slc
        subst f0
        clear z1
        obtain ⟨pz2, nz2, cz2, f0⟩ := z2.slc
        subst f0
        clear z2
        obtain ⟨pz3, nz3, cz3, f0⟩ := z3.slc
        subst f0
        clear z3
        have OAa11 := Lib.hid (OAa10.out.below hbb)
        have ONa11 := Lib.hid (ONa10.out.below hbb)
        have BBa11 := Lib.hid (belowTo BBa10.out hbb BBa10.out.size)
        have FUa11 := Lib.hid (FUa10.out.below hbb)
        have FGa11 := Lib.hid (FGa10.out.below hbb)
        have FAa11 := Lib.hid (FAa10.out.below hbb)
        clear hbb
        obtain ⟨ha110, ha111, ha112, _, _⟩ := own3 OAa11.out
        obtain ⟨ga110, ga111, ga112, _, _⟩ := own3 ONa11.out
        refine hK.out _ _ (⟨ha110, ha111, ha112⟩) ?_
        clear hK K hHeld
        intro hHeld
        try simp only [Act.put, List.setIfInBounds_toArray, List.set_cons_zero, List.set_cons_succ]
        refine wpH_take (i := 5) (some 17) (v := ?x16v) rfl (by kernel_rfl) (by kernel_rfl) (by kernel_rfl) rfl (fun _ _ _ h => h) (Or.inl ⟨by rfl, ?x16y⟩) hHeld ?x16r
        case x16y => (intro w hSw; (try dsimp only at hSw); go_simp; try with_reducible rfl)
        try simp only [Act.put, List.setIfInBounds_toArray, List.set_cons_zero, List.set_cons_succ]
        refine wpH_take (i := 6) (some 23) (v := ?x17v) rfl (by kernel_rfl) (by kernel_rfl) (by kernel_rfl) rfl (fun _ _ _ h => h) (Or.inl ⟨by rfl, ?x17y⟩) hHeld ?x17r
        case x17y => (intro w hSw; (try dsimp only at hSw); go_simp; try with_reducible rfl)
        try simp only [Act.put, List.setIfInBounds_toArray, List.set_cons_zero, List.set_cons_succ]
        refine wpH_take (i := 7) (some 24) (v := ?x18v) rfl (by kernel_rfl) (by kernel_rfl) (by kernel_rfl) rfl (fun _ _ _ h => h) (Or.inl ⟨by rfl, ?x18y⟩) hHeld ?x18r
        case x18y => (intro w hSw; (try dsimp only at hSw); go_simp; try with_reducible rfl)
        try simp only [Act.put, List.setIfInBounds_toArray, List.set_cons_zero, List.set_cons_succ]
        refine wpH_one (i := 9) (by kernel_rfl) rfl (fun K hK => ?_)
        rw [if_pos (by rfl)]
        go_simp
        have NE2 := NE.out
        refine hK.out _ _ (⟨(far3 (fun e => NE2 e.symm)).trans ha110, (far3 (fun e => NE2 e.symm)).trans ha111, (far3 (fun e => NE2 e.symm)).trans ha112⟩) ?_
        clear hK K hHeld
        intro hHeld
        try simp only [Act.put, List.setIfInBounds_toArray, List.set_cons_zero, List.set_cons_succ]
        refine wpH_take (i := 10) (some 4) (v := ?x19v) rfl (by kernel_rfl) (by kernel_rfl) (by kernel_rfl) rfl (fun _ _ _ h => h) (Or.inl ⟨by rfl, ?x19y⟩) hHeld ?x19r
        case x19y => (intro w hSw; (try dsimp only at hSw); go_simp; try with_reducible rfl)
        try simp only [Act.put, List.setIfInBounds_toArray, List.set_cons_zero, List.set_cons_succ]
        refine wpAnyH_done (by kernel_rfl) ?_ _
        go_wp2_with fail
        go_meet
        exact ⟨_, rfl, rfl, below_set3 BBa11.out LN.out⟩
    case x3b =>
      rw [if_pos (by rfl)]
      go_simp
      have ONa13 := Lib.hid (show Own (w4.alloc (.cells #[.slice none 0 0, .slice none 0 0, .slice none 0 0] 26)).drew w4.heap.size [.slice none 0 0, .slice none 0 0, .slice none 0 0] 26 from (own_at _ _ rfl).drew)
      have OAa13 := Lib.hid (show Own (w4.alloc (.cells #[.slice none 0 0, .slice none 0 0, .slice none 0 0] 26)).drew (w3.heap.size) [.slice pva1 1 cva1, .slice pva2 0 cva2, .slice pva3 0 cva3] 26 from (OAa0.out.alloc (.cells #[.slice none 0 0, .slice none 0 0, .slice none 0 0] 26)))
      have BBa13 := Lib.hid (show Below w4.heap.size w4 (w4.alloc (.cells #[.slice none 0 0, .slice none 0 0, .slice none 0 0] 26)).drew from (BBa0.out.alloc BBa0.out.size (.cells #[.slice none 0 0, .slice none 0 0, .slice none 0 0] 26)))
      have FUa13 := Lib.hid (FUa0.out.below (show Below _ _ (w4.alloc (.cells #[.slice none 0 0, .slice none 0 0, .slice none 0 0] 26)).drew from belowNew _ (.cells #[.slice none 0 0, .slice none 0 0, .slice none 0 0] 26)))
      have FGa13 := Lib.hid (FGa0.out.below (show Below _ _ (w4.alloc (.cells #[.slice none 0 0, .slice none 0 0, .slice none 0 0] 26)).drew from belowNew _ (.cells #[.slice none 0 0, .slice none 0 0, .slice none 0 0] 26)))
      have FAa13 := Lib.hid (FAa0.out.below (show Below _ _ (w4.alloc (.cells #[.slice none 0 0, .slice none 0 0, .slice none 0 0] 26)).drew from belowNew _ (.cells #[.slice none 0 0, .slice none 0 0, .slice none 0 0] 26)))
      have NE := Lib.hid (show ¬ w3.heap.size = w4.heap.size from by have := OAa0.out.lt; have h9 : w3.heap.size < w4.heap.size := this; omega)
      obtain ⟨bN, hbN⟩ : ∃ bN, w4.heap.size = bN := ⟨_, rfl⟩
      have LN := Lib.hid (show w4.heap.size ≤ bN from by rw [← hbN]; exact Nat.le_refl _)
      rw [hbN] at ONa13 NE
      try rw [hbN]
      clear hbN
      generalize (w4.alloc (.cells #[.slice none 0 0, .slice none 0 0, .slice none 0 0] 26)).drew = wa13 at ONa13 OAa13 BBa13 FUa13 FGa13 FAa13 ⊢
      obtain ⟨ha130, ha131, ha132, _, _⟩ := own3 OAa13.out
      obtain ⟨ga130, ga131, ga132, _, _⟩ := own3 ONa13.out
      refine hK.out _ _ (⟨ha130, ha131, ha132⟩) ?_
      clear hK K hHeld
      intro hHeld
      try simp only [Act.put, List.setIfInBounds_toArray, List.set_cons_zero, List.set_cons_succ]
      refine wpH_one (i := 1) (by kernel_rfl) rfl (fun K hK => ?_)
      rw [if_pos (by rfl)]
      go_simp
      refine (layout_any _).mono ?_
      rintro e wa14 ⟨rfl, hbb⟩
      have OAa14 := Lib.hid (OAa13.out.below hbb)
      have ONa14 := Lib.hid (ONa13.out.below hbb)
      have BBa14 := Lib.hid (belowTo BBa13.out hbb BBa13.out.size)
      have FUa14 := Lib.hid (FUa13.out.below hbb)
      have FGa14 := Lib.hid (FGa13.out.below hbb)
      have FAa14 := Lib.hid (FAa13.out.below hbb)
      clear hbb
      obtain ⟨ha140, ha141, ha142, _, _⟩ := own3 OAa14.out
      obtain ⟨ga140, ga141, ga142, _, _⟩ := own3 ONa14.out
      refine hK.out _ _ (⟨ha140, ha141, ha142⟩) ?_
      clear hK K hHeld
      intro hHeld
      try simp only [Act.put, List.setIfInBounds_toArray, List.set_cons_zero, List.set_cons_succ]
      refine wpH_one (i := 2) (by kernel_rfl) rfl (fun K hK => ?_)
      rw [if_pos (by rfl)]
      go_simp
      refine (lcell_any 2 6 _).mono ?_
      rintro e wa15 ⟨rfl, hbb⟩
      have OAa15 := Lib.hid (OAa14.out.below hbb)
      have ONa15 := Lib.hid (ONa14.out.below hbb)
      have BBa15 := Lib.hid (belowTo BBa14.out hbb BBa14.out.size)
      have FUa15 := Lib.hid (FUa14.out.below hbb)
      have FGa15 := Lib.hid (FGa14.out.below hbb)
      have FAa15 := Lib.hid (FAa14.out.below hbb)
      clear hbb
      obtain ⟨ha150, ha151, ha152, _, _⟩ := own3 OAa15.out
      obtain ⟨ga150, ga151, ga152, _, _⟩ := own3 ONa15.out
      refine hK.out _ _ (⟨ha150, ha151, ha152⟩) ?_
      clear hK K hHeld
      intro hHeld
      try simp only [Act.put, List.setIfInBounds_toArray, List.set_cons_zero, List.set_cons_succ]
      refine wpH_take (i := 3) (some 21) (v := ?x20v) rfl (by kernel_rfl) (by kernel_rfl) (by kernel_rfl) rfl (fun _ _ _ h => h) (Or.inl ⟨by rfl, ?x20y⟩) hHeld ?x20r
      case x20y => (intro w hSw; (try dsimp only at hSw); go_simp; try with_reducible rfl)
      try simp only [Act.put, List.setIfInBounds_toArray, List.set_cons_zero, List.set_cons_succ]
      refine wpH_one (i := 4) (by kernel_rfl) rfl (fun K hK => ?_)
      rw [if_pos (by rfl)]
      go_simp
      refine (addg_lit _ _ _ [⟨2, 5, 0, 7⟩] [] [] 3 4 _ FUa15.out FGa15.out FAa15.out ⟨2, 6, 1, 0, 0⟩ (by decide) (by decide) (by decide) 5 ha2).mono ?_
      rintro e wa16 ⟨vz1, vz2, vz3, rfl, z1, z2, z3, hbb⟩
      obtain ⟨pz1, nz1, cz1, f0⟩ := z1.slc
      subst f0
      clear z1
      obtain ⟨pz2, nz2, cz2, f0⟩ := z2.slc
      subst f0
      clear z2
      obtain ⟨pz3, nz3, cz3, f0⟩ := z3.slc
      subst f0
      clear z3
      have OAa16 := Lib.hid (OAa15.out.below hbb)
      have ONa16 := Lib.hid (ONa15.out.below hbb)
      have BBa16 := Lib.hid (belowTo BBa15.out hbb BBa15.out.size)
      have FUa16 := Lib.hid (FUa15.out.below hbb)
      have FGa16 := Lib.hid (FGa15.out.below hbb)
      have FAa16 := Lib.hid (FAa15.out.below hbb)
      clear hbb
      obtain ⟨ha160, ha161, ha162, _, _⟩ := own3 OAa16.out
      obtain ⟨ga160, ga161, ga162, _, _⟩ := own3 ONa16.out
      refine hK.out _ _ (⟨ha160, ha161, ha162⟩) ?_
      clear hK K hHeld
      intro hHeld
      try simp only [Act.put, List.setIfInBounds_toArray, List.set_cons_zero, List.set_cons_succ]
      refine wpH_take (i := 5) (some 17) (v := ?x21v) rfl (by kernel_rfl) (by kernel_rfl) (by kernel_rfl) rfl (fun _ _ _ h => h) (Or.inl ⟨by rfl, ?x21y⟩) hHeld ?x21r
      case x21y => (intro w hSw; (try dsimp only at hSw); go_simp; try with_reducible rfl)
      try simp only [Act.put, List.setIfInBounds_toArray, List.set_cons_zero, List.set_cons_succ]
      refine wpH_take (i := 6) (some 23) (v := ?x22v) rfl (by kernel_rfl) (by kernel_rfl) (by kernel_rfl) rfl (fun _ _ _ h => h) (Or.inl ⟨by rfl, ?x22y⟩) hHeld ?x22r
      case x22y => (intro w hSw; (try dsimp only at hSw); go_simp; try with_reducible rfl)
      try simp only [Act.put, List.setIfInBounds_toArray, List.set_cons_zero, List.set_cons_succ]
      refine wpH_take (i := 7) (some 24) (v := ?x23v) rfl (by kernel_rfl) (by kernel_rfl) (by kernel_rfl) rfl (fun _ _ _ h => h) (Or.inl ⟨by rfl, ?x23y⟩) hHeld ?x23r
      case x23y => (intro w hSw; (try dsimp only at hSw); go_simp; try with_reducible rfl)
      try simp only [Act.put, List.setIfInBounds_toArray, List.set_cons_zero, List.set_cons_succ]
      refine wpH_one (i := 9) (by kernel_rfl) rfl (fun K hK => ?_)
      rw [if_pos (by rfl)]
      go_simp
      have NE2 := NE.out
      refine hK.out _ _ (⟨(far3 (fun e => NE2 e.symm)).trans ha160, (far3 (fun e => NE2 e.symm)).trans ha161, (far3 (fun e => NE2 e.symm)).trans ha162⟩) ?_
      clear hK K hHeld
      intro hHeld
      try simp only [Act.put, List.setIfInBounds_toArray, List.set_cons_zero, List.set_cons_succ]
      refine wpH_take (i := 10) (some 4) (v := ?x24v) rfl (by kernel_rfl) (by kernel_rfl) (by kernel_rfl) rfl (fun _ _ _ h => h) (Or.inl ⟨by rfl, ?x24y⟩) hHeld ?x24r
      case x24y => (intro w hSw; (try dsimp only at hSw); go_simp; try with_reducible rfl)
      try simp only [Act.put, List.setIfInBounds_toArray, List.set_cons_zero, List.set_cons_succ]
      refine wpAnyH_done (by kernel_rfl) ?_ _
      go_wp2_with fail
      go_meet
      exact ⟨_, rfl, rfl, below_set3 BBa16.out LN.out⟩
  case rest =>
    obtain ⟨bZa, rfl, rfl, hx⟩ := hcut
    clear cA0 cA1 cA2 fA zA
    replace oA := oA.below hx
    replace FU := Lib.hid (FU.out.below hx)
    replace FG := Lib.hid (FG.out.below hx)
    replace FA := Lib.hid (FA.out.below hx)
    replace bel := belowTo bel hx bel.size
    clear hx
    generalize wc = w5 at *
    obtain ⟨cA0, cA1, cA2, fA, zA⟩ := own3 oA
    go_wp2_with fail
    refine (lcell_any 3 1 _).mono ?_
    rintro e w6 ⟨rfl, hb⟩
    replace oA := oA.below hb
    replace FU := Lib.hid (FU.out.below hb)
    replace FG := Lib.hid (FG.out.below hb)
    replace FA := Lib.hid (FA.out.below hb)
    replace bel := belowTo bel hb (by exact bel.size)
    clear hb
    clear cA0 cA1 cA2 fA zA
    obtain ⟨cA0, cA1, cA2, fA, zA⟩ := own3 oA
    go_wp2_with fail
    refine (layout_any _).mono ?_
    rintro e w7 ⟨rfl, hb⟩
    replace oA := (oA.alloc _).below hb
    replace FU := Lib.hid ((FU.out.below (belowNew _ _)).below hb)
    replace FG := Lib.hid ((FG.out.below (belowNew _ _)).below hb)
    replace FA := Lib.hid ((FA.out.below (belowNew _ _)).below hb)
    have oY : Own w7 w6.heap.size [.int .i64 3, .int .i64 1, .int .i64 0] 51 := (own_at _ _ rfl).below hb
    replace bel := belowTo (bel.alloc (by have := bel.size; simp; omega) _) hb (by have := bel.size; simp; omega)
    clear hb
    clear cA0 cA1 cA2 fA zA
    obtain ⟨cA0, cA1, cA2, fA, zA⟩ := own3 oA
    obtain ⟨cY0, cY1, cY2, fY, zY⟩ := own3 oY
    go_wp2_with fail
    refine (lcell_any 3 9 _).mono ?_
    rintro e w8 ⟨rfl, hb⟩
    replace oA := oA.below hb
    replace oY := oY.below hb
    replace FU := Lib.hid (FU.out.below hb)
    replace FG := Lib.hid (FG.out.below hb)
    replace FA := Lib.hid (FA.out.below hb)
    replace bel := belowTo bel hb (by exact bel.size)
    clear hb
    clear cA0 cA1 cA2 fA zA cY0 cY1 cY2 fY zY
    obtain ⟨cA0, cA1, cA2, fA, zA⟩ := own3 oA
    obtain ⟨cY0, cY1, cY2, fY, zY⟩ := own3 oY
    go_wp2_with fail
    refine (addg_lit (.slice none 0 0) (.slice none 0 0) (.slice (some ⟨w6.heap.size, 0, none⟩) 1 1) [] [] [⟨3, 1, 0⟩] 3 4 _ (slt_nil0 _ _) (slt_nil0 _ _) (slt_new (L := akL) ⟨3, 1, 0⟩ oY) ⟨3, 9, 2, 7, 15⟩ (by decide) (by decide) (by decide) 0 ha3).mono ?_
    rintro e w9 ⟨vb1, vb2, vb3, rfl, z1, z2, z3, hb⟩
    clear oY cY0 cY1 cY2 fY zY
    replace oA := oA.below hb
    replace FU := Lib.hid (FU.out.below hb)
    replace FG := Lib.hid (FG.out.below hb)
    replace FA := Lib.hid (FA.out.below hb)
    replace bel := belowTo bel hb (by exact bel.size)
    clear hb
    clear cA0 cA1 cA2 fA zA
    obtain ⟨cA0, cA1, cA2, fA, zA⟩ := own3 oA
    have GU := Lib.hid (show SlU w9 vb1 [] from z1)
    have GG := Lib.hid (show SlG w9 vb2 [⟨3, 9, 2, 7, 15⟩] from z2)
    have GA := Lib.hid (show SlA w9 vb3 [] from z3)
    clear z1 z2 z3
    obtain ⟨pvb1, cvb1, f0, _, _, _⟩ := GU.out.form 0 rfl
    subst f0
    obtain ⟨pvb2, cvb2, f0, _, _, _⟩ := GG.out.form 1 rfl
    subst f0
    obtain ⟨pvb3, cvb3, f0, _, _, _⟩ := GA.out.form 0 rfl
    subst f0
    go_wp2_with fail
    have oB : Own (w9.alloc (Obj.cells #[.slice pvb1 0 cvb1, .slice pvb2 1 cvb2, .slice pvb3 0 cvb3] 26)) w9.heap.size [.slice pvb1 0 cvb1, .slice pvb2 1 cvb2, .slice pvb3 0 cvb3] 26 := own_at _ _ rfl
    have ltBA : w3.heap.size < w9.heap.size := zA
    replace oA := oA.alloc (Obj.cells #[.slice pvb1 0 cvb1, .slice pvb2 1 cvb2, .slice pvb3 0 cvb3] 26)
    replace FU := Lib.hid (FU.out.below (belowNew w9 (Obj.cells #[.slice pvb1 0 cvb1, .slice pvb2 1 cvb2, .slice pvb3 0 cvb3] 26)))
    replace FG := Lib.hid (FG.out.below (belowNew w9 (Obj.cells #[.slice pvb1 0 cvb1, .slice pvb2 1 cvb2, .slice pvb3 0 cvb3] 26)))
    replace FA := Lib.hid (FA.out.below (belowNew w9 (Obj.cells #[.slice pvb1 0 cvb1, .slice pvb2 1 cvb2, .slice pvb3 0 cvb3] 26)))
    replace GU := Lib.hid (GU.out.below (belowNew w9 (Obj.cells #[.slice pvb1 0 cvb1, .slice pvb2 1 cvb2, .slice pvb3 0 cvb3] 26)))
    replace GG := Lib.hid (GG.out.below (belowNew w9 (Obj.cells #[.slice pvb1 0 cvb1, .slice pvb2 1 cvb2, .slice pvb3 0 cvb3] 26)))
    replace GA := Lib.hid (GA.out.below (belowNew w9 (Obj.cells #[.slice pvb1 0 cvb1, .slice pvb2 1 cvb2, .slice pvb3 0 cvb3] 26)))
    replace bel := bel.alloc bel.size (Obj.cells #[.slice pvb1 0 cvb1, .slice pvb2 1 cvb2, .slice pvb3 0 cvb3] 26)
    clear cA0 cA1 cA2 fA zA
    generalize w9.alloc (Obj.cells #[.slice pvb1 0 cvb1, .slice pvb2 1 cvb2, .slice pvb3 0 cvb3] 26) = w10 at oA oB FU FG FA GU GG GA bel ⊢
    obtain ⟨cA0, cA1, cA2, fA, zA⟩ := own3 oA
    obtain ⟨cB0, cB1, cB2, fB, zB⟩ := own3 oB
    go_wp2_with fail
    go_cut [7, 8] (fun s1 s2 wx => ∃ bZ : Nat, s1 = .pointer (some ⟨bZ, 0, none⟩) ∧ s2 = .int .i64 1 ∧ Below w10.heap.size w10 wx)
    case first =>
      have OAb0 := Lib.hid oA.drew
      have BBb0 := Lib.hid (Below.refl w10.heap.size w10).drew
      have LE := Lib.hid (Nat.le_refl w10.heap.size)
      have FUb0 := Lib.hid (FU.out.below (Below.refl _ _).drew)
      have FGb0 := Lib.hid (FG.out.below (Below.refl _ _).drew)
      have FAb0 := Lib.hid (FA.out.below (Below.refl _ _).drew)
      have GUb0 := Lib.hid (GU.out.below (Below.refl _ _).drew)
      have GGb0 := Lib.hid (GG.out.below (Below.refl _ _).drew)
      have GAb0 := Lib.hid (GA.out.below (Below.refl _ _).drew)
      clear oA cA0 cA1 cA2 fA zA
      clear oB cB0 cB1 cB2 fB zB
      clear bel FU FG FA GU GG GA
      obtain ⟨hb00, hb01, hb02, _, _⟩ := own3 OAb0.out
      refine region_H 11 #[false, false, false, false, false, false, false, false, false, false, false] (by kernel_rfl) (by kernel_rfl) (fun w' => w'.cell? ⟨w3.heap.size, 0, none⟩ = some (.slice pva1 1 cva1) ∧ w'.cell? ⟨w3.heap.size, 1, none⟩ = some (.slice pva2 0 cva2) ∧ w'.cell? ⟨w3.heap.size, 2, none⟩ = some (.slice pva3 0 cva3)) (by kernel_rfl) ?x25s (fun hHeld => ?x25r)
      case x25s => exact ⟨hb00, hb01, hb02⟩
      refine wpH_take (i := 0) (some 37) (v := ?x26v) rfl (by kernel_rfl) (by kernel_rfl) (by kernel_rfl) rfl (fun _ _ _ h => h) (Or.inl ⟨by rfl, ?x26y⟩) hHeld ?x26r
      case x26y => (intro w hSw; (try dsimp only at hSw); go_simp; try with_reducible rfl)
      try simp only [Act.put, List.setIfInBounds_toArray, List.set_cons_zero, List.set_cons_succ]
      refine wpAnyH_ready (rs := [1, 8]) (by kernel_rfl) (by simp) (AllReadyH.cons rfl (fun K hK => ?x27a) (AllReadyH.cons rfl (fun K hK => ?x27b) AllReadyH.nil))
      case x27a =>
        rw [if_pos (by rfl)]
        go_simp
        refine (layout_any _).mono ?_
        rintro e wb1 ⟨rfl, hbb⟩
        have OAb1 := Lib.hid (OAb0.out.below hbb)
        have BBb1 := Lib.hid (belowTo BBb0.out hbb BBb0.out.size)
        have FUb1 := Lib.hid (FUb0.out.below hbb)
        have FGb1 := Lib.hid (FGb0.out.below hbb)
        have FAb1 := Lib.hid (FAb0.out.below hbb)
        have GUb1 := Lib.hid (GUb0.out.below hbb)
        have GGb1 := Lib.hid (GGb0.out.below hbb)
        have GAb1 := Lib.hid (GAb0.out.below hbb)
        clear hbb
        obtain ⟨hb10, hb11, hb12, _, _⟩ := own3 OAb1.out
        refine hK.out _ _ (⟨hb10, hb11, hb12⟩) ?_
        clear hK K hHeld
        intro hHeld
        try simp only [Act.put, List.setIfInBounds_toArray, List.set_cons_zero, List.set_cons_succ]
        refine wpAnyH_ready (rs := [2, 8]) (by kernel_rfl) (by simp) (AllReadyH.cons rfl (fun K hK => ?x28a) (AllReadyH.cons rfl (fun K hK => ?x28b) AllReadyH.nil))
        case x28a =>
          rw [if_pos (by rfl)]
          go_simp
          refine (lcell_any 4 5 _).mono ?_
          rintro e wb2 ⟨rfl, hbb⟩
          have OAb2 := Lib.hid (OAb1.out.below hbb)
          have BBb2 := Lib.hid (belowTo BBb1.out hbb BBb1.out.size)
          have FUb2 := Lib.hid (FUb1.out.below hbb)
          have FGb2 := Lib.hid (FGb1.out.below hbb)
          have FAb2 := Lib.hid (FAb1.out.below hbb)
          have GUb2 := Lib.hid (GUb1.out.below hbb)
          have GGb2 := Lib.hid (GGb1.out.below hbb)
          have GAb2 := Lib.hid (GAb1.out.below hbb)
          clear hbb
          obtain ⟨hb20, hb21, hb22, _, _⟩ := own3 OAb2.out
          refine hK.out _ _ (⟨hb20, hb21, hb22⟩) ?_
          clear hK K hHeld
          intro hHeld
          try simp only [Act.put, List.setIfInBounds_toArray, List.set_cons_zero, List.set_cons_succ]
          refine wpH_take (i := 3) (some 40) (v := ?x29v) rfl (by kernel_rfl) (by kernel_rfl) (by kernel_rfl) rfl (fun _ _ _ h => h) (Or.inl ⟨by rfl, ?x29y⟩) hHeld ?x29r
          case x29y => (intro w hSw; (try dsimp only at hSw); go_simp; try with_reducible rfl)
          try simp only [Act.put, List.setIfInBounds_toArray, List.set_cons_zero, List.set_cons_succ]
          refine wpAnyH_ready (rs := [4, 8]) (by kernel_rfl) (by simp) (AllReadyH.cons rfl (fun K hK => ?x30a) (AllReadyH.cons rfl (fun K hK => ?x30b) AllReadyH.nil))
          case x30a =>
            rw [if_pos (by rfl)]
            go_simp
            refine (addu_lit _ _ _ [⟨2, 5, 0, 7⟩] [] [] 3 4 _ FUb2.out FGb2.out FAb2.out ⟨4, 5, 0, 0⟩ (by decide) (by decide) (by decide) 1 ha4).mono ?_
            rintro e wb3 ⟨vz1, vz2, vz3, rfl, z1, z2, z3, hbb⟩
            obtain ⟨pz1, nz1, cz1, f0⟩ := z1.slc
            subst f0
            clear z1
            obtain ⟨pz2, nz2, cz2, f0⟩ := z2.slc
            subst f0
            clear z2
            obtain ⟨pz3, nz3, cz3, f0⟩ := z3.slc
            subst f0
            clear z3
            have OAb3 := Lib.hid (OAb2.out.below hbb)
            have BBb3 := Lib.hid (belowTo BBb2.out hbb BBb2.out.size)
            have FUb3 := Lib.hid (FUb2.out.below hbb)
            have FGb3 := Lib.hid (FGb2.out.below hbb)
            have FAb3 := Lib.hid (FAb2.out.below hbb)
            have GUb3 := Lib.hid (GUb2.out.below hbb)
            have GGb3 := Lib.hid (GGb2.out.below hbb)
            have GAb3 := Lib.hid (GAb2.out.below hbb)
            clear hbb
            obtain ⟨hb30, hb31, hb32, _, _⟩ := own3 OAb3.out
            refine hK.out _ _ (⟨hb30, hb31, hb32⟩) ?_
            clear hK K hHeld
            intro hHeld
            try simp only [Act.put, List.setIfInBounds_toArray, List.set_cons_zero, List.set_cons_succ]
            refine wpH_take (i := 5) (some 36) (v := ?x31v) rfl (by kernel_rfl) (by kernel_rfl) (by kernel_rfl) rfl (fun _ _ _ h => h) (Or.inl ⟨by rfl, ?x31y⟩) hHeld ?x31r
            case x31y => (intro w hSw; (try dsimp only at hSw); go_simp; try with_reducible rfl)
            try simp only [Act.put, List.setIfInBounds_toArray, List.set_cons_zero, List.set_cons_succ]
            refine wpH_take (i := 6) (some 42) (v := ?x32v) rfl (by kernel_rfl) (by kernel_rfl) (by kernel_rfl) rfl (fun _ _ _ h => h) (Or.inl ⟨by rfl, ?x32y⟩) hHeld ?x32r
            case x32y => (intro w hSw; (try dsimp only at hSw); go_simp; try with_reducible rfl)
            try simp only [Act.put, List.setIfInBounds_toArray, List.set_cons_zero, List.set_cons_succ]
            refine wpH_take (i := 7) (some 43) (v := ?x33v) rfl (by kernel_rfl) (by kernel_rfl) (by kernel_rfl) rfl (fun _ _ _ h => h) (Or.inl ⟨by rfl, ?x33y⟩) hHeld ?x33r
            case x33y => (intro w hSw; (try dsimp only at hSw); go_simp; try with_reducible rfl)
            try simp only [Act.put, List.setIfInBounds_toArray, List.set_cons_zero, List.set_cons_succ]
            refine wpH_one (i := 8) (by kernel_rfl) rfl (fun K hK => ?_)
            rw [if_pos (by rfl)]
            go_simp
            have ONb4 := Lib.hid (show Own (wb3.alloc (.cells #[.slice none 0 0, .slice none 0 0, .slice none 0 0] 26)) wb3.heap.size [.slice none 0 0, .slice none 0 0, .slice none 0 0] 26 from own_at _ _ rfl)
            have OAb4 := Lib.hid (OAb3.out.alloc (.cells #[.slice none 0 0, .slice none 0 0, .slice none 0 0] 26))
            have BBb4 := Lib.hid (BBb3.out.alloc BBb3.out.size (.cells #[.slice none 0 0, .slice none 0 0, .slice none 0 0] 26))
            have FUb4 := Lib.hid (FUb3.out.below (belowNew _ (.cells #[.slice none 0 0, .slice none 0 0, .slice none 0 0] 26)))
            have FGb4 := Lib.hid (FGb3.out.below (belowNew _ (.cells #[.slice none 0 0, .slice none 0 0, .slice none 0 0] 26)))
            have FAb4 := Lib.hid (FAb3.out.below (belowNew _ (.cells #[.slice none 0 0, .slice none 0 0, .slice none 0 0] 26)))
            have GUb4 := Lib.hid (GUb3.out.below (belowNew _ (.cells #[.slice none 0 0, .slice none 0 0, .slice none 0 0] 26)))
            have GGb4 := Lib.hid (GGb3.out.below (belowNew _ (.cells #[.slice none 0 0, .slice none 0 0, .slice none 0 0] 26)))
            have GAb4 := Lib.hid (GAb3.out.below (belowNew _ (.cells #[.slice none 0 0, .slice none 0 0, .slice none 0 0] 26)))
            have NE := Lib.hid (show ¬ w3.heap.size = wb3.heap.size from by have := OAb3.out.lt; omega)
            obtain ⟨bN, hbN⟩ : ∃ bN, wb3.heap.size = bN := ⟨_, rfl⟩
            have LN := Lib.hid (show w10.heap.size ≤ bN from by rw [← hbN]; exact BBb3.out.size)
            rw [hbN] at ONb4 NE
            try rw [hbN]
            clear hbN
            generalize (wb3.alloc (.cells #[.slice none 0 0, .slice none 0 0, .slice none 0 0] 26)) = wb4 at ONb4 OAb4 BBb4 FUb4 FGb4 FAb4 GUb4 GGb4 GAb4 ⊢
            obtain ⟨hb40, hb41, hb42, _, _⟩ := own3 OAb4.out
            obtain ⟨gb40, gb41, gb42, _, _⟩ := own3 ONb4.out
            refine hK.out _ _ (⟨hb40, hb41, hb42⟩) ?_
            clear hK K hHeld
            intro hHeld
            try simp only [Act.put, List.setIfInBounds_toArray, List.set_cons_zero, List.set_cons_succ]
            refine wpH_one (i := 9) (by kernel_rfl) rfl (fun K hK => ?_)
            rw [if_pos (by rfl)]
            go_simp
            have NE2 := NE.out
            refine hK.out _ _ (⟨(far3 (fun e => NE2 e.symm)).trans hb40, (far3 (fun e => NE2 e.symm)).trans hb41, (far3 (fun e => NE2 e.symm)).trans hb42⟩) ?_
            clear hK K hHeld
            intro hHeld
            try simp only [Act.put, List.setIfInBounds_toArray, List.set_cons_zero, List.set_cons_succ]
            refine wpH_take (i := 10) (some 8) (v := ?x34v) rfl (by kernel_rfl) (by kernel_rfl) (by kernel_rfl) rfl (fun _ _ _ h => h) (Or.inl ⟨by rfl, ?x34y⟩) hHeld ?x34r
            case x34y => (intro w hSw; (try dsimp only at hSw); go_simp; try with_reducible rfl)
            try simp only [Act.put, List.setIfInBounds_toArray, List.set_cons_zero, List.set_cons_succ]
            refine wpAnyH_done (by kernel_rfl) ?_ _
            go_wp2_with fail
            go_meet
            exact ⟨_, rfl, rfl, below_set3 BBb4.out LN.out⟩
          case x30b =>
            rw [if_pos (by rfl)]
            go_simp
            have ONb6 := Lib.hid (show Own (wb2.alloc (.cells #[.slice none 0 0, .slice none 0 0, .slice none 0 0] 26)) wb2.heap.size [.slice none 0 0, .slice none 0 0, .slice none 0 0] 26 from own_at _ _ rfl)
            have OAb6 := Lib.hid (OAb2.out.alloc (.cells #[.slice none 0 0, .slice none 0 0, .slice none 0 0] 26))
            have BBb6 := Lib.hid (BBb2.out.alloc BBb2.out.size (.cells #[.slice none 0 0, .slice none 0 0, .slice none 0 0] 26))
            have FUb6 := Lib.hid (FUb2.out.below (belowNew _ (.cells #[.slice none 0 0, .slice none 0 0, .slice none 0 0] 26)))
            have FGb6 := Lib.hid (FGb2.out.below (belowNew _ (.cells #[.slice none 0 0, .slice none 0 0, .slice none 0 0] 26)))
            have FAb6 := Lib.hid (FAb2.out.below (belowNew _ (.cells #[.slice none 0 0, .slice none 0 0, .slice none 0 0] 26)))
            have GUb6 := Lib.hid (GUb2.out.below (belowNew _ (.cells #[.slice none 0 0, .slice none 0 0, .slice none 0 0] 26)))
            have GGb6 := Lib.hid (GGb2.out.below (belowNew _ (.cells #[.slice none 0 0, .slice none 0 0, .slice none 0 0] 26)))
            have GAb6 := Lib.hid (GAb2.out.below (belowNew _ (.cells #[.slice none 0 0, .slice none 0 0, .slice none 0 0] 26)))
            have NE := Lib.hid (show ¬ w3.heap.size = wb2.heap.size from by have := OAb2.out.lt; omega)
            obtain ⟨bN, hbN⟩ : ∃ bN, wb2.heap.size = bN := ⟨_, rfl⟩
            have LN := Lib.hid (show w10.heap.size ≤ bN from by rw [← hbN]; exact BBb2.out.size)
            rw [hbN] at ONb6 NE
            try rw [hbN]
            clear hbN
            generalize (wb2.alloc (.cells #[.slice none 0 0, .slice none 0 0, .slice none 0 0] 26)) = wb6 at ONb6 OAb6 BBb6 FUb6 FGb6 FAb6 GUb6 GGb6 GAb6 ⊢
            obtain ⟨hb60, hb61, hb62, _, _⟩ := own3 OAb6.out
            obtain ⟨gb60, gb61, gb62, _, _⟩ := own3 ONb6.out
            refine hK.out _ _ (⟨hb60, hb61, hb62⟩) ?_
            clear hK K hHeld
            intro hHeld
            try simp only [Act.put, List.setIfInBounds_toArray, List.set_cons_zero, List.set_cons_succ]
            refine wpH_one (i := 4) (by kernel_rfl) rfl (fun K hK => ?_)
            rw [if_pos (by rfl)]
            go_simp
            refine (addu_lit _ _ _ [⟨2, 5, 0, 7⟩] [] [] 3 4 _ FUb6.out FGb6.out FAb6.out ⟨4, 5, 0, 0⟩ (by decide) (by decide) (by decide) 1 ha4).mono ?_
            rintro e wb7 ⟨vz1, vz2, vz3, rfl, z1, z2, z3, hbb⟩
            obtain ⟨pz1, nz1, cz1, f0⟩ := z1.slc
            subst f0
            clear z1
            obtain ⟨pz2, nz2, cz2, f0⟩ := z2.slc
            subst f0
            clear z2
            obtain ⟨pz3, nz3, cz3, f0⟩ := z3.slc
            subst f0
            clear z3
            have OAb7 := Lib.hid (OAb6.out.below hbb)
            have ONb7 := Lib.hid (ONb6.out.below hbb)
            have BBb7 := Lib.hid (belowTo BBb6.out hbb BBb6.out.size)
            have FUb7 := Lib.hid (FUb6.out.below hbb)
            have FGb7 := Lib.hid (FGb6.out.below hbb)
            have FAb7 := Lib.hid (FAb6.out.below hbb)
            have GUb7 := Lib.hid (GUb6.out.below hbb)
            have GGb7 := Lib.hid (GGb6.out.below hbb)
            have GAb7 := Lib.hid (GAb6.out.below hbb)
            clear hbb
            obtain ⟨hb70, hb71, hb72, _, _⟩ := own3 OAb7.out
            obtain ⟨gb70, gb71, gb72, _, _⟩ := own3 ONb7.out
            refine hK.out _ _ (⟨hb70, hb71, hb72⟩) ?_
            clear hK K hHeld
            intro hHeld
            try simp only [Act.put, List.setIfInBounds_toArray, List.set_cons_zero, List.set_cons_succ]
            refine wpH_take (i := 5) (some 36) (v := ?x35v) rfl (by kernel_rfl) (by kernel_rfl) (by kernel_rfl) rfl (fun _ _ _ h => h) (Or.inl ⟨by rfl, ?x35y⟩) hHeld ?x35r
            case x35y => (intro w hSw; (try dsimp only at hSw); go_simp; try with_reducible rfl)
            try simp only [Act.put, List.setIfInBounds_toArray, List.set_cons_zero, List.set_cons_succ]
            refine wpH_take (i := 6) (some 42) (v := ?x36v) rfl (by kernel_rfl) (by kernel_rfl) (by kernel_rfl) rfl (fun _ _ _ h => h) (Or.inl ⟨by rfl, ?x36y⟩) hHeld ?x36r
            case x36y => (intro w hSw; (try dsimp only at hSw); go_simp; try with_reducible rfl)
            try simp only [Act.put, List.setIfInBounds_toArray, List.set_cons_zero, List.set_cons_succ]
            refine wpH_take (i := 7) (some 43) (v := ?x37v) rfl (by kernel_rfl) (by kernel_rfl) (by kernel_rfl) rfl (fun _ _ _ h => h) (Or.inl ⟨by rfl, ?x37y⟩) hHeld ?x37r
            case x37y => (intro w hSw; (try dsimp only at hSw); go_simp; try with_reducible rfl)
            try simp only [Act.put, List.setIfInBounds_toArray, List.set_cons_zero, List.set_cons_succ]
            refine wpH_one (i := 9) (by kernel_rfl) rfl (fun K hK => ?_)
            rw [if_pos (by rfl)]
            go_simp
            have NE2 := NE.out
            refine hK.out _ _ (⟨(far3 (fun e => NE2 e.symm)).trans hb70, (far3 (fun e => NE2 e.symm)).trans hb71, (far3 (fun e => NE2 e.symm)).trans hb72⟩) ?_
            clear hK K hHeld
            intro hHeld
            try simp only [Act.put, List.setIfInBounds_toArray, List.set_cons_zero, List.set_cons_succ]
            refine wpH_take (i := 10) (some 8) (v := ?x38v) rfl (by kernel_rfl) (by kernel_rfl) (by kernel_rfl) rfl (fun _ _ _ h => h) (Or.inl ⟨by rfl, ?x38y⟩) hHeld ?x38r
            case x38y => (intro w hSw; (try dsimp only at hSw); go_simp; try with_reducible rfl)
            try simp only [Act.put, List.setIfInBounds_toArray, List.set_cons_zero, List.set_cons_succ]
            refine wpAnyH_done (by kernel_rfl) ?_ _
            go_wp2_with fail
            go_meet
            exact ⟨_, rfl, rfl, below_set3 BBb7.out LN.out⟩
        case x28b =>
          rw [if_pos (by rfl)]
          go_simp
          have ONb9 := Lib.hid (show Own (wb1.alloc (.cells #[.slice none 0 0, .slice none 0 0, .slice none 0 0] 26)) wb1.heap.size [.slice none 0 0, .slice none 0 0, .slice none 0 0] 26 from own_at _ _ rfl)
          have OAb9 := Lib.hid (OAb1.out.alloc (.cells #[.slice none 0 0, .slice none 0 0, .slice none 0 0] 26))
          have BBb9 := Lib.hid (BBb1.out.alloc BBb1.out.size (.cells #[.slice none 0 0, .slice none 0 0, .slice none 0 0] 26))
          have FUb9 := Lib.hid (FUb1.out.below (belowNew _ (.cells #[.slice none 0 0, .slice none 0 0, .slice none 0 0] 26)))
          have FGb9 := Lib.hid (FGb1.out.below (belowNew _ (.cells #[.slice none 0 0, .slice none 0 0, .slice none 0 0] 26)))
          have FAb9 := Lib.hid (FAb1.out.below (belowNew _ (.cells #[.slice none 0 0, .slice none 0 0, .slice none 0 0] 26)))
          have GUb9 := Lib.hid (GUb1.out.below (belowNew _ (.cells #[.slice none 0 0, .slice none 0 0, .slice none 0 0] 26)))
          have GGb9 := Lib.hid (GGb1.out.below (belowNew _ (.cells #[.slice none 0 0, .slice none 0 0, .slice none 0 0] 26)))
          have GAb9 := Lib.hid (GAb1.out.below (belowNew _ (.cells #[.slice none 0 0, .slice none 0 0, .slice none 0 0] 26)))
          have NE := Lib.hid (show ¬ w3.heap.size = wb1.heap.size from by have := OAb1.out.lt; omega)
          obtain ⟨bN, hbN⟩ : ∃ bN, wb1.heap.size = bN := ⟨_, rfl⟩
          have LN := Lib.hid (show w10.heap.size ≤ bN from by rw [← hbN]; exact BBb1.out.size)
          rw [hbN] at ONb9 NE
          try rw [hbN]
          clear hbN
          generalize (wb1.alloc (.cells #[.slice none 0 0, .slice none 0 0, .slice none 0 0] 26)) = wb9 at ONb9 OAb9 BBb9 FUb9 FGb9 FAb9 GUb9 GGb9 GAb9 ⊢
          obtain ⟨hb90, hb91, hb92, _, _⟩ := own3 OAb9.out
          obtain ⟨gb90, gb91, gb92, _, _⟩ := own3 ONb9.out
          refine hK.out _ _ (⟨hb90, hb91, hb92⟩) ?_
          clear hK K hHeld
          intro hHeld
          try simp only [Act.put, List.setIfInBounds_toArray, List.set_cons_zero, List.set_cons_succ]
          refine wpH_one (i := 2) (by kernel_rfl) rfl (fun K hK => ?_)
          rw [if_pos (by rfl)]
          go_simp
          refine (lcell_any 4 5 _).mono ?_
          rintro e wb10 ⟨rfl, hbb⟩
          have OAb10 := Lib.hid (OAb9.out.below hbb)
          have ONb10 := Lib.hid (ONb9.out.below hbb)
          have BBb10 := Lib.hid (belowTo BBb9.out hbb BBb9.out.size)
          have FUb10 := Lib.hid (FUb9.out.below hbb)
          have FGb10 := Lib.hid (FGb9.out.below hbb)
          have FAb10 := Lib.hid (FAb9.out.below hbb)
          have GUb10 := Lib.hid (GUb9.out.below hbb)
          have GGb10 := Lib.hid (GGb9.out.below hbb)
          have GAb10 := Lib.hid (GAb9.out.below hbb)
          clear hbb
          obtain ⟨hb100, hb101, hb102, _, _⟩ := own3 OAb10.out
          obtain ⟨gb100, gb101, gb102, _, _⟩ := own3 ONb10.out
          refine hK.out _ _ (⟨hb100, hb101, hb102⟩) ?_
          clear hK K hHeld
          intro hHeld
          try simp only [Act.put, List.setIfInBounds_toArray, List.set_cons_zero, List.set_cons_succ]
          refine wpH_take (i := 3) (some 40) (v := ?x39v) rfl (by kernel_rfl) (by kernel_rfl) (by kernel_rfl) rfl (fun _ _ _ h => h) (Or.inl ⟨by rfl, ?x39y⟩) hHeld ?x39r
          case x39y => (intro w hSw; (try dsimp only at hSw); go_simp; try with_reducible rfl)
          try simp only [Act.put, List.setIfInBounds_toArray, List.set_cons_zero, List.set_cons_succ]
          refine wpH_one (i := 4) (by kernel_rfl) rfl (fun K hK => ?_)
          rw [if_pos (by rfl)]
          go_simp
          refine (addu_lit _ _ _ [⟨2, 5, 0, 7⟩] [] [] 3 4 _ FUb10.out FGb10.out FAb10.out ⟨4, 5, 0, 0⟩ (by decide) (by decide) (by decide) 1 ha4).mono ?_
          rintro e wb11 ⟨vz1, vz2, vz3, rfl, z1, z2, z3, hbb⟩
          obtain ⟨pz1, nz1, cz1, f0⟩ := z1.slc
          subst f0
          clear z1
          obtain ⟨pz2, nz2, cz2, f0⟩ := z2.slc
          subst f0
          clear z2
          obtain ⟨pz3, nz3, cz3, f0⟩ := z3.slc
          subst f0
          clear z3
          have OAb11 := Lib.hid (OAb10.out.below hbb)
          have ONb11 := Lib.hid (ONb10.out.below hbb)
          have BBb11 := Lib.hid (belowTo BBb10.out hbb BBb10.out.size)
          have FUb11 := Lib.hid (FUb10.out.below hbb)
          have FGb11 := Lib.hid (FGb10.out.below hbb)
          have FAb11 := Lib.hid (FAb10.out.below hbb)
          have GUb11 := Lib.hid (GUb10.out.below hbb)
          have GGb11 := Lib.hid (GGb10.out.below hbb)
          have GAb11 := Lib.hid (GAb10.out.below hbb)
          clear hbb
          obtain ⟨hb110, hb111, hb112, _, _⟩ := own3 OAb11.out
          obtain ⟨gb110, gb111, gb112, _, _⟩ := own3 ONb11.out
          refine hK.out _ _ (⟨hb110, hb111, hb112⟩) ?_
          clear hK K hHeld
          intro hHeld
          try simp only [Act.put, List.setIfInBounds_toArray, List.set_cons_zero, List.set_cons_succ]
          refine wpH_take (i := 5) (some 36) (v := ?x40v) rfl (by kernel_rfl) (by kernel_rfl) (by kernel_rfl) rfl (fun _ _ _ h => h) (Or.inl ⟨by rfl, ?x40y⟩) hHeld ?x40r
          case x40y => (intro w hSw; (try dsimp only at hSw); go_simp; try with_reducible rfl)
          try simp only [Act.put, List.setIfInBounds_toArray, List.set_cons_zero, List.set_cons_succ]
          refine wpH_take (i := 6) (some 42) (v := ?x41v) rfl (by kernel_rfl) (by kernel_rfl) (by kernel_rfl) rfl (fun _ _ _ h => h) (Or.inl ⟨by rfl, ?x41y⟩) hHeld ?x41r
          case x41y => (intro w hSw; (try dsimp only at hSw); go_simp; try with_reducible rfl)
          try simp only [Act.put, List.setIfInBounds_toArray, List.set_cons_zero, List.set_cons_succ]
          refine wpH_take (i := 7) (some 43) (v := ?x42v) rfl (by kernel_rfl) (by kernel_rfl) (by kernel_rfl) rfl (fun _ _ _ h => h) (Or.inl ⟨by rfl, ?x42y⟩) hHeld ?x42r
          case x42y => (intro w hSw; (try dsimp only at hSw); go_simp; try with_reducible rfl)
          try simp only [Act.put, List.setIfInBounds_toArray, List.set_cons_zero, List.set_cons_succ]
          refine wpH_one (i := 9) (by kernel_rfl) rfl (fun K hK => ?_)
          rw [if_pos (by rfl)]
          go_simp
          have NE2 := NE.out
          refine hK.out _ _ (⟨(far3 (fun e => NE2 e.symm)).trans hb110, (far3 (fun e => NE2 e.symm)).trans hb111, (far3 (fun e => NE2 e.symm)).trans hb112⟩) ?_
          clear hK K hHeld
          intro hHeld
          try simp only [Act.put, List.setIfInBounds_toArray, List.set_cons_zero, List.set_cons_succ]
          refine wpH_take (i := 10) (some 8) (v := ?x43v) rfl (by kernel_rfl) (by kernel_rfl) (by kernel_rfl) rfl (fun _ _ _ h => h) (Or.inl ⟨by rfl, ?x43y⟩) hHeld ?x43r
          case x43y => (intro w hSw; (try dsimp only at hSw); go_simp; try with_reducible rfl)
          try simp only [Act.put, List.setIfInBounds_toArray, List.set_cons_zero, List.set_cons_succ]
          refine wpAnyH_done (by kernel_rfl) ?_ _
          go_wp2_with fail
          go_meet
          exact ⟨_, rfl, rfl, below_set3 BBb11.out LN.out⟩
      case x27b =>
        rw [if_pos (by rfl)]
        go_simp
        have ONb13 := Lib.hid (show Own (w10.alloc (.cells #[.slice none 0 0, .slice none 0 0, .slice none 0 0] 26)).drew w10.heap.size [.slice none 0 0, .slice none 0 0, .slice none 0 0] 26 from (own_at _ _ rfl).drew)
        have OAb13 := Lib.hid (show Own (w10.alloc (.cells #[.slice none 0 0, .slice none 0 0, .slice none 0 0] 26)).drew (w3.heap.size) [.slice pva1 1 cva1, .slice pva2 0 cva2, .slice pva3 0 cva3] 26 from (OAb0.out.alloc (.cells #[.slice none 0 0, .slice none 0 0, .slice none 0 0] 26)))
        have BBb13 := Lib.hid (show Below w10.heap.size w10 (w10.alloc (.cells #[.slice none 0 0, .slice none 0 0, .slice none 0 0] 26)).drew from (BBb0.out.alloc BBb0.out.size (.cells #[.slice none 0 0, .slice none 0 0, .slice none 0 0] 26)))
        have FUb13 := Lib.hid (FUb0.out.below (show Below _ _ (w10.alloc (.cells #[.slice none 0 0, .slice none 0 0, .slice none 0 0] 26)).drew from belowNew _ (.cells #[.slice none 0 0, .slice none 0 0, .slice none 0 0] 26)))
        have FGb13 := Lib.hid (FGb0.out.below (show Below _ _ (w10.alloc (.cells #[.slice none 0 0, .slice none 0 0, .slice none 0 0] 26)).drew from belowNew _ (.cells #[.slice none 0 0, .slice none 0 0, .slice none 0 0] 26)))
        have FAb13 := Lib.hid (FAb0.out.below (show Below _ _ (w10.alloc (.cells #[.slice none 0 0, .slice none 0 0, .slice none 0 0] 26)).drew from belowNew _ (.cells #[.slice none 0 0, .slice none 0 0, .slice none 0 0] 26)))
        have GUb13 := Lib.hid (GUb0.out.below (show Below _ _ (w10.alloc (.cells #[.slice none 0 0, .slice none 0 0, .slice none 0 0] 26)).drew from belowNew _ (.cells #[.slice none 0 0, .slice none 0 0, .slice none 0 0] 26)))
        have GGb13 := Lib.hid (GGb0.out.below (show Below _ _ (w10.alloc (.cells #[.slice none 0 0, .slice none 0 0, .slice none 0 0] 26)).drew from belowNew _ (.cells #[.slice none 0 0, .slice none 0 0, .slice none 0 0] 26)))
        have GAb13 := Lib.hid (GAb0.out.below (show Below _ _ (w10.alloc (.cells #[.slice none 0 0, .slice none 0 0, .slice none 0 0] 26)).drew from belowNew _ (.cells #[.slice none 0 0, .slice none 0 0, .slice none 0 0] 26)))
        have NE := Lib.hid (show ¬ w3.heap.size = w10.heap.size from by have := OAb0.out.lt; have h9 : w3.heap.size < w10.heap.size := this; omega)
        obtain ⟨bN, hbN⟩ : ∃ bN, w10.heap.size = bN := ⟨_, rfl⟩
        have LN := Lib.hid (show w10.heap.size ≤ bN from by rw [← hbN]; exact Nat.le_refl _)
        rw [hbN] at ONb13 NE
        try rw [hbN]
        clear hbN
        generalize (w10.alloc (.cells #[.slice none 0 0, .slice none 0 0, .slice none 0 0] 26)).drew = wb13 at ONb13 OAb13 BBb13 FUb13 FGb13 FAb13 GUb13 GGb13 GAb13 ⊢
        obtain ⟨hb130, hb131, hb132, _, _⟩ := own3 OAb13.out
        obtain ⟨gb130, gb131, gb132, _, _⟩ := own3 ONb13.out
        refine hK.out _ _ (⟨hb130, hb131, hb132⟩) ?_
        clear hK K hHeld
        intro hHeld
        try simp only [Act.put, List.setIfInBounds_toArray, List.set_cons_zero, List.set_cons_succ]
        refine wpH_one (i := 1) (by kernel_rfl) rfl (fun K hK => ?_)
        rw [if_pos (by rfl)]
        go_simp
        refine (layout_any _).mono ?_
        rintro e wb14 ⟨rfl, hbb⟩
        have OAb14 := Lib.hid (OAb13.out.below hbb)
        have ONb14 := Lib.hid (ONb13.out.below hbb)
        have BBb14 := Lib.hid (belowTo BBb13.out hbb BBb13.out.size)
        have FUb14 := Lib.hid (FUb13.out.below hbb)
        have FGb14 := Lib.hid (FGb13.out.below hbb)
        have FAb14 := Lib.hid (FAb13.out.below hbb)
        have GUb14 := Lib.hid (GUb13.out.below hbb)
        have GGb14 := Lib.hid (GGb13.out.below hbb)
        have GAb14 := Lib.hid (GAb13.out.below hbb)
        clear hbb
        obtain ⟨hb140, hb141, hb142, _, _⟩ := own3 OAb14.out
        obtain ⟨gb140, gb141, gb142, _, _⟩ := own3 ONb14.out
        refine hK.out _ _ (⟨hb140, hb141, hb142⟩) ?_
        clear hK K hHeld
        intro hHeld
        try simp only [Act.put, List.setIfInBounds_toArray, List.set_cons_zero, List.set_cons_succ]
        refine wpH_one (i := 2) (by kernel_rfl) rfl (fun K hK => ?_)
        rw [if_pos (by rfl)]
        go_simp
        refine (lcell_any 4 5 _).mono ?_
        rintro e wb15 ⟨rfl, hbb⟩
        have OAb15 := Lib.hid (OAb14.out.below hbb)
        have ONb15 := Lib.hid (ONb14.out.below hbb)
        have BBb15 := Lib.hid (belowTo BBb14.out hbb BBb14.out.size)
        have FUb15 := Lib.hid (FUb14.out.below hbb)
        have FGb15 := Lib.hid (FGb14.out.below hbb)
        have FAb15 := Lib.hid (FAb14.out.below hbb)
        have GUb15 := Lib.hid (GUb14.out.below hbb)
        have GGb15 := Lib.hid (GGb14.out.below hbb)
        have GAb15 := Lib.hid (GAb14.out.below hbb)
        clear hbb
        obtain ⟨hb150, hb151, hb152, _, _⟩ := own3 OAb15.out
        obtain ⟨gb150, gb151, gb152, _, _⟩ := own3 ONb15.out
        refine hK.out _ _ (⟨hb150, hb151, hb152⟩) ?_
        clear hK K hHeld
        intro hHeld
        try simp only [Act.put, List.setIfInBounds_toArray, List.set_cons_zero, List.set_cons_succ]
        refine wpH_take (i := 3) (some 40) (v := ?x44v) rfl (by kernel_rfl) (by kernel_rfl) (by kernel_rfl) rfl (fun _ _ _ h => h) (Or.inl ⟨by rfl, ?x44y⟩) hHeld ?x44r
        case x44y => (intro w hSw; (try dsimp only at hSw); go_simp; try with_reducible rfl)
        try simp only [Act.put, List.setIfInBounds_toArray, List.set_cons_zero, List.set_cons_succ]
        refine wpH_one (i := 4) (by kernel_rfl) rfl (fun K hK => ?_)
        rw [if_pos (by rfl)]
        go_simp
        refine (addu_lit _ _ _ [⟨2, 5, 0, 7⟩] [] [] 3 4 _ FUb15.out FGb15.out FAb15.out ⟨4, 5, 0, 0⟩ (by decide) (by decide) (by decide) 1 ha4).mono ?_
        rintro e wb16 ⟨vz1, vz2, vz3, rfl, z1, z2, z3, hbb⟩
        obtain ⟨pz1, nz1, cz1, f0⟩ := z1.slc
        subst f0
        clear z1
        obtain ⟨pz2, nz2, cz2, f0⟩ := z2.slc
        subst f0
        clear z2
        obtain ⟨pz3, nz3, cz3, f0⟩ := z3.slc
        subst f0
        clear z3
        have OAb16 := Lib.hid (OAb15.out.below hbb)
        have ONb16 := Lib.hid (ONb15.out.below hbb)
        have BBb16 := Lib.hid (belowTo BBb15.out hbb BBb15.out.size)
        have FUb16 := Lib.hid (FUb15.out.below hbb)
        have FGb16 := Lib.hid (FGb15.out.below hbb)
        have FAb16 := Lib.hid (FAb15.out.below hbb)
        have GUb16 := Lib.hid (GUb15.out.below hbb)
        have GGb16 := Lib.hid (GGb15.out.below hbb)
        have GAb16 := Lib.hid (GAb15.out.below hbb)
        clear hbb
        obtain ⟨hb160, hb161, hb162, _, _⟩ := own3 OAb16.out
        obtain ⟨gb160, gb161, gb162, _, _⟩ := own3 ONb16.out
        refine hK.out _ _ (⟨hb160, hb161, hb162⟩) ?_
        clear hK K hHeld
        intro hHeld
        try simp only [Act.put, List.setIfInBounds_toArray, List.set_cons_zero, List.set_cons_succ]
        refine wpH_take (i := 5) (some 36) (v := ?x45v) rfl (by kernel_rfl) (by kernel_rfl) (by kernel_rfl) rfl (fun _ _ _ h => h) (Or.inl ⟨by rfl, ?x45y⟩) hHeld ?x45r
        case x45y => (intro w hSw; (try dsimp only at hSw); go_simp; try with_reducible rfl)
        try simp only [Act.put, List.setIfInBounds_toArray, List.set_cons_zero, List.set_cons_succ]
        refine wpH_take (i := 6) (some 42) (v := ?x46v) rfl (by kernel_rfl) (by kernel_rfl) (by kernel_rfl) rfl (fun _ _ _ h => h) (Or.inl ⟨by rfl, ?x46y⟩) hHeld ?x46r
        case x46y => (intro w hSw; (try dsimp only at hSw); go_simp; try with_reducible rfl)
        try simp only [Act.put, List.setIfInBounds_toArray, List.set_cons_zero, List.set_cons_succ]
        refine wpH_take (i := 7) (some 43) (v := ?x47v) rfl (by kernel_rfl) (by kernel_rfl) (by kernel_rfl) rfl (fun _ _ _ h => h) (Or.inl ⟨by rfl, ?x47y⟩) hHeld ?x47r
        case x47y => (intro w hSw; (try dsimp only at hSw); go_simp; try with_reducible rfl)
        try simp only [Act.put, List.setIfInBounds_toArray, List.set_cons_zero, List.set_cons_succ]
        refine wpH_one (i := 9) (by kernel_rfl) rfl (fun K hK => ?_)
        rw [if_pos (by rfl)]
        go_simp
        have NE2 := NE.out
        refine hK.out _ _ (⟨(far3 (fun e => NE2 e.symm)).trans hb160, (far3 (fun e => NE2 e.symm)).trans hb161, (far3 (fun e => NE2 e.symm)).trans hb162⟩) ?_
        clear hK K hHeld
        intro hHeld
        try simp only [Act.put, List.setIfInBounds_toArray, List.set_cons_zero, List.set_cons_succ]
        refine wpH_take (i := 10) (some 8) (v := ?x48v) rfl (by kernel_rfl) (by kernel_rfl) (by kernel_rfl) rfl (fun _ _ _ h => h) (Or.inl ⟨by rfl, ?x48y⟩) hHeld ?x48r
        case x48y => (intro w hSw; (try dsimp only at hSw); go_simp; try with_reducible rfl)
        try simp only [Act.put, List.setIfInBounds_toArray, List.set_cons_zero, List.set_cons_succ]
        refine wpAnyH_done (by kernel_rfl) ?_ _
        go_wp2_with fail
        go_meet
        exact ⟨_, rfl, rfl, below_set3 BBb16.out LN.out⟩
    case rest =>
      obtain ⟨bZb, rfl, rfl, hx⟩ := hcut
      clear cA0 cA1 cA2 fA zA cB0 cB1 cB2 fB zB
      replace oA := oA.below hx
      replace oB := oB.below hx
      replace FU := Lib.hid (FU.out.below hx)
      replace FG := Lib.hid (FG.out.below hx)
      replace FA := Lib.hid (FA.out.below hx)
      replace GU := Lib.hid (GU.out.below hx)
      replace GG := Lib.hid (GG.out.below hx)
      replace GA := Lib.hid (GA.out.below hx)
      replace bel := belowTo bel hx bel.size
      clear hx
      generalize wc = w11 at *
      obtain ⟨cA0, cA1, cA2, fA, zA⟩ := own3 oA
      obtain ⟨cB0, cB1, cB2, fB, zB⟩ := own3 oB
      go_wp2_with fail
      have OAc0 := Lib.hid oA.drew
      have OBc0 := Lib.hid oB.drew
      have BBc0 := Lib.hid bel.drew
      have FUc0 := Lib.hid (FU.out.below (Below.refl _ _).drew)
      have FGc0 := Lib.hid (FG.out.below (Below.refl _ _).drew)
      have FAc0 := Lib.hid (FA.out.below (Below.refl _ _).drew)
      have GUc0 := Lib.hid (GU.out.below (Below.refl _ _).drew)
      have GGc0 := Lib.hid (GG.out.below (Below.refl _ _).drew)
      have GAc0 := Lib.hid (GA.out.below (Below.refl _ _).drew)
      clear oA cA0 cA1 cA2 fA zA oB cB0 cB1 cB2 fB zB
      clear bel FU FG FA GU GG GA
      obtain ⟨hAc00, hAc01, hAc02, _, _⟩ := own3 OAc0.out
      obtain ⟨hBc00, hBc01, hBc02, _, _⟩ := own3 OBc0.out
      simp only [List.append_eq, List.cons_append, List.nil_append]
      refine region_H 79 #[false, false, false, false, false, false, false, false, false, false, false, false, false, false, false, false, false, false, false, false, false, false, false, false, false, false, false, false, false, false, false, false, false, false, false, false, false, false, false, false, false, false, false, false, false, false, false, false, false, false, false, false, false, false, false, false, false, false, false, false, false, false, false, false, false, false, false, false, false, false, false, false, false, false, false, false, false, false, false] (by kernel_rfl) (by kernel_rfl) (fun w' => w'.cell? ⟨w3.heap.size, 0, none⟩ = some (.slice pva1 1 cva1) ∧ w'.cell? ⟨w3.heap.size, 1, none⟩ = some (.slice pva2 0 cva2) ∧ w'.cell? ⟨w3.heap.size, 2, none⟩ = some (.slice pva3 0 cva3) ∧ w'.cell? ⟨w9.heap.size, 0, none⟩ = some (.slice pvb1 0 cvb1) ∧ w'.cell? ⟨w9.heap.size, 1, none⟩ = some (.slice pvb2 1 cvb2) ∧ w'.cell? ⟨w9.heap.size, 2, none⟩ = some (.slice pvb3 0 cvb3)) (by kernel_rfl) ?x49s (fun hHeld => ?x49r)
      case x49s => exact ⟨hAc00, hAc01, hAc02, hBc00, hBc01, hBc02⟩
      refine wpH_take (i := 0) (some 44) (v := ?x50v) rfl (by kernel_rfl) (by kernel_rfl) (by kernel_rfl) rfl (fun _ _ _ h => h) (Or.inl ⟨by rfl, ?x50y⟩) hHeld ?x50r
      case x50y => (intro w hSw; (try dsimp only at hSw); go_simp; try with_reducible rfl)
      try simp only [Act.put, List.setIfInBounds_toArray, List.set_cons_zero, List.set_cons_succ]
      refine wpH_take (i := 1) (some 45) (v := ?x51v) rfl (by kernel_rfl) (by kernel_rfl) (by kernel_rfl) rfl (fun _ _ _ h => h) (Or.inl ⟨by rfl, ?x51y⟩) hHeld ?x51r
      case x51y => (intro w hSw; (try dsimp only at hSw); go_simp; try with_reducible rfl)
      try simp only [Act.put, List.setIfInBounds_toArray, List.set_cons_zero, List.set_cons_succ]
      refine wpH_take (i := 2) (some 46) (v := ?x52v) rfl (by kernel_rfl) (by kernel_rfl) (by kernel_rfl) rfl (fun _ _ _ h => h) (Or.inl ⟨by rfl, ?x52y⟩) hHeld ?x52r
      case x52y => (intro w hSw; (try dsimp only at hSw); go_simp; try with_reducible rfl)
      try simp only [Act.put, List.setIfInBounds_toArray, List.set_cons_zero, List.set_cons_succ]
      refine wpH_take (i := 3) (some 47) (v := ?x53v) rfl (by kernel_rfl) (by kernel_rfl) (by kernel_rfl) rfl (fun _ _ _ h => h) (Or.inl ⟨by rfl, ?x53y⟩) hHeld ?x53r
      case x53y => (intro w hSw; (try dsimp only at hSw); go_simp; try with_reducible rfl)
      try simp only [Act.put, List.setIfInBounds_toArray, List.set_cons_zero, List.set_cons_succ]
      refine wpH_take (i := 4) (some 48) (v := ?x54v) rfl (by kernel_rfl) (by kernel_rfl) (by kernel_rfl) rfl (fun _ _ _ h => h) (Or.inl ⟨by rfl, ?x54y⟩) hHeld ?x54r
      case x54y => (intro w hSw; (try dsimp only at hSw); go_simp; try with_reducible rfl)
      try simp only [Act.put, List.setIfInBounds_toArray, List.set_cons_zero, List.set_cons_succ]
      refine wpH_take (i := 5) (some 49) (v := ?x55v) rfl (by kernel_rfl) (by kernel_rfl) (by kernel_rfl) rfl (fun _ _ _ h => h) (Or.inl ⟨by rfl, ?x55y⟩) hHeld ?x55r
      case x55y => (intro w hSw; (try dsimp only at hSw); go_simp; try with_reducible rfl)
      try simp only [Act.put, List.setIfInBounds_toArray, List.set_cons_zero, List.set_cons_succ]
      refine wpH_take (i := 6) (some 50) (v := ?x56v) rfl (by kernel_rfl) (by kernel_rfl) (by kernel_rfl) rfl (fun _ _ _ h => h) (Or.inl ⟨by rfl, ?x56y⟩) hHeld ?x56r
      case x56y => (intro w hSw; (try dsimp only at hSw); go_simp; try with_reducible rfl)
      try simp only [Act.put, List.setIfInBounds_toArray, List.set_cons_zero, List.set_cons_succ]
      refine wpH_take (i := 7) (some 51) (v := ?x57v) rfl (by kernel_rfl) (by kernel_rfl) (by kernel_rfl) rfl (fun _ _ _ h => h) (Or.inl ⟨by rfl, ?x57y⟩) hHeld ?x57r
      case x57y => (intro w hSw; (try dsimp only at hSw); go_simp; try with_reducible rfl)
      try simp only [Act.put, List.setIfInBounds_toArray, List.set_cons_zero, List.set_cons_succ]
      refine wpH_take (i := 8) (some 52) (v := ?x58v) rfl (by kernel_rfl) (by kernel_rfl) (by kernel_rfl) rfl (fun _ _ _ h => h) (Or.inl ⟨by rfl, ?x58y⟩) hHeld ?x58r
      case x58y => (intro w hSw; (try dsimp only at hSw); go_simp; try with_reducible rfl)
      try simp only [Act.put, List.setIfInBounds_toArray, List.set_cons_zero, List.set_cons_succ]
      refine wpH_take (i := 9) (some 53) (v := ?x59v) rfl (by kernel_rfl) (by kernel_rfl) (by kernel_rfl) rfl (fun _ _ _ h => h) (Or.inl ⟨by rfl, ?x59y⟩) hHeld ?x59r
      case x59y => (intro w hSw; (try dsimp only at hSw); go_simp; try with_reducible rfl)
      try simp only [Act.put, List.setIfInBounds_toArray, List.set_cons_zero, List.set_cons_succ]
      refine wpH_take (i := 10) (some 54) (v := ?x60v) rfl (by kernel_rfl) (by kernel_rfl) (by kernel_rfl) rfl (fun _ _ _ h => h) (Or.inl ⟨by rfl, ?x60y⟩) hHeld ?x60r
      case x60y => (intro w hSw; (try dsimp only at hSw); go_simp; try with_reducible rfl)
      try simp only [Act.put, List.setIfInBounds_toArray, List.set_cons_zero, List.set_cons_succ]
      refine wpH_take (i := 11) (some 55) (v := ?x61v) rfl (by kernel_rfl) (by kernel_rfl) (by kernel_rfl) rfl (fun _ _ _ h => h) (Or.inl ⟨by rfl, ?x61y⟩) hHeld ?x61r
      case x61y => (intro w hSw; (try dsimp only at hSw); go_simp; try with_reducible rfl)
      try simp only [Act.put, List.setIfInBounds_toArray, List.set_cons_zero, List.set_cons_succ]
      refine wpH_take (i := 12) (some 56) (v := ?x62v) rfl (by kernel_rfl) (by kernel_rfl) (by kernel_rfl) rfl (fun _ _ _ h => h) (Or.inl ⟨by rfl, ?x62y⟩) hHeld ?x62r
      case x62y => (intro w hSw; (try dsimp only at hSw); go_simp; try with_reducible rfl)
      try simp only [Act.put, List.setIfInBounds_toArray, List.set_cons_zero, List.set_cons_succ]
      refine wpH_take (i := 13) (some 57) (v := ?x63v) rfl (by kernel_rfl) (by kernel_rfl) (by kernel_rfl) rfl (fun _ _ _ h => h) (Or.inl ⟨by rfl, ?x63y⟩) hHeld ?x63r
      case x63y => (intro w hSw; (try dsimp only at hSw); go_simp; try with_reducible rfl)
      try simp only [Act.put, List.setIfInBounds_toArray, List.set_cons_zero, List.set_cons_succ]
      refine wpH_take (i := 14) (some 58) (v := ?x64v) rfl (by kernel_rfl) (by kernel_rfl) (by kernel_rfl) rfl (fun _ _ _ h => h) (Or.inl ⟨by rfl, ?x64y⟩) hHeld ?x64r
      case x64y => (intro w hSw; (try dsimp only at hSw); go_simp; try with_reducible rfl)
      try simp only [Act.put, List.setIfInBounds_toArray, List.set_cons_zero, List.set_cons_succ]
      refine wpH_take (i := 15) (some 59) (v := ?x65v) rfl (by kernel_rfl) (by kernel_rfl) (by kernel_rfl) rfl (fun _ _ _ h => h) (Or.inl ⟨by rfl, ?x65y⟩) hHeld ?x65r
      case x65y => (intro w hSw; (try dsimp only at hSw); go_simp; try with_reducible rfl)
      try simp only [Act.put, List.setIfInBounds_toArray, List.set_cons_zero, List.set_cons_succ]
      refine wpH_take (i := 16) (some 60) (v := ?x66v) rfl (by kernel_rfl) (by kernel_rfl) (by kernel_rfl) rfl (fun _ _ _ h => h) (Or.inl ⟨by rfl, ?x66y⟩) hHeld ?x66r
      case x66y => (intro w hSw; (try dsimp only at hSw); go_simp; try with_reducible rfl)
      try simp only [Act.put, List.setIfInBounds_toArray, List.set_cons_zero, List.set_cons_succ]
      refine wpH_take (i := 17) (some 61) (v := ?x67v) rfl (by kernel_rfl) (by kernel_rfl) (by kernel_rfl) rfl (fun _ _ _ h => h) (Or.inl ⟨by rfl, ?x67y⟩) hHeld ?x67r
      case x67y => (intro w hSw; (try dsimp only at hSw); go_simp; try with_reducible rfl)
      try simp only [Act.put, List.setIfInBounds_toArray, List.set_cons_zero, List.set_cons_succ]
      refine wpH_take (i := 18) (some 62) (v := ?x68v) rfl (by kernel_rfl) (by kernel_rfl) (by kernel_rfl) rfl (fun _ _ _ h => h) (Or.inl ⟨by rfl, ?x68y⟩) hHeld ?x68r
      case x68y => (intro w hSw; (try dsimp only at hSw); go_simp; try with_reducible rfl)
      try simp only [Act.put, List.setIfInBounds_toArray, List.set_cons_zero, List.set_cons_succ]
      refine wpH_take (i := 19) (some 63) (v := ?x69v) rfl (by kernel_rfl) (by kernel_rfl) (by kernel_rfl) rfl (fun _ _ _ h => h) (Or.inl ⟨by rfl, ?x69y⟩) hHeld ?x69r
      case x69y => (intro w hSw; (try dsimp only at hSw); go_simp; try with_reducible rfl)
      try simp only [Act.put, List.setIfInBounds_toArray, List.set_cons_zero, List.set_cons_succ]
      refine wpH_take (i := 20) (some 64) (v := ?x70v) rfl (by kernel_rfl) (by kernel_rfl) (by kernel_rfl) rfl (fun _ _ _ h => h) (Or.inl ⟨by rfl, ?x70y⟩) hHeld ?x70r
      case x70y => (intro w hSw; (try dsimp only at hSw); go_simp; try with_reducible rfl)
      try simp only [Act.put, List.setIfInBounds_toArray, List.set_cons_zero, List.set_cons_succ]
      refine wpH_take (i := 21) (some 65) (v := ?x71v) rfl (by kernel_rfl) (by kernel_rfl) (by kernel_rfl) rfl (fun _ _ _ h => h) (Or.inl ⟨by rfl, ?x71y⟩) hHeld ?x71r
      case x71y => (intro w hSw; (try dsimp only at hSw); go_simp; try with_reducible rfl)
      try simp only [Act.put, List.setIfInBounds_toArray, List.set_cons_zero, List.set_cons_succ]
      refine wpH_take (i := 22) (some 66) (v := ?x72v) rfl (by kernel_rfl) (by kernel_rfl) (by kernel_rfl) rfl (fun _ _ _ h => h) (Or.inl ⟨by rfl, ?x72y⟩) hHeld ?x72r
      case x72y => (intro w hSw; (try dsimp only at hSw); go_simp; try with_reducible rfl)
      try simp only [Act.put, List.setIfInBounds_toArray, List.set_cons_zero, List.set_cons_succ]
      refine wpH_take (i := 23) (some 67) (v := ?x73v) rfl (by kernel_rfl) (by kernel_rfl) (by kernel_rfl) rfl (fun _ _ _ h => h) (Or.inl ⟨by rfl, ?x73y⟩) hHeld ?x73r
      case x73y => (intro w hSw; (try dsimp only at hSw); go_simp; try with_reducible rfl)
      try simp only [Act.put, List.setIfInBounds_toArray, List.set_cons_zero, List.set_cons_succ]
      refine wpH_take (i := 24) (some 68) (v := ?x74v) rfl (by kernel_rfl) (by kernel_rfl) (by kernel_rfl) rfl (fun _ _ _ h => h) (Or.inl ⟨by rfl, ?x74y⟩) hHeld ?x74r
      case x74y => (intro w hSw; (try dsimp only at hSw); go_simp; try with_reducible rfl)
      try simp only [Act.put, List.setIfInBounds_toArray, List.set_cons_zero, List.set_cons_succ]
      refine wpH_take (i := 25) (some 69) (v := ?x75v) rfl (by kernel_rfl) (by kernel_rfl) (by kernel_rfl) rfl (fun _ _ _ h => h) (Or.inl ⟨by rfl, ?x75y⟩) hHeld ?x75r
      case x75y => (intro w hSw; (try dsimp only at hSw); go_simp; try with_reducible rfl)
      try simp only [Act.put, List.setIfInBounds_toArray, List.set_cons_zero, List.set_cons_succ]
      refine wpH_take (i := 26) (some 70) (v := ?x76v) rfl (by kernel_rfl) (by kernel_rfl) (by kernel_rfl) rfl (fun _ _ _ h => h) (Or.inl ⟨by rfl, ?x76y⟩) hHeld ?x76r
      case x76y => (intro w hSw; (try dsimp only at hSw); go_simp; try with_reducible rfl)
      try simp only [Act.put, List.setIfInBounds_toArray, List.set_cons_zero, List.set_cons_succ]
      refine wpH_take (i := 27) (some 71) (v := ?x77v) rfl (by kernel_rfl) (by kernel_rfl) (by kernel_rfl) rfl (fun _ _ _ h => h) (Or.inl ⟨by rfl, ?x77y⟩) hHeld ?x77r
      case x77y => (intro w hSw; (try dsimp only at hSw); go_simp; try with_reducible rfl)
      try simp only [Act.put, List.setIfInBounds_toArray, List.set_cons_zero, List.set_cons_succ]
      refine wpH_take (i := 28) (some 72) (v := ?x78v) rfl (by kernel_rfl) (by kernel_rfl) (by kernel_rfl) rfl (fun _ _ _ h => h) (Or.inl ⟨by rfl, ?x78y⟩) hHeld ?x78r
      case x78y => (intro w hSw; (try dsimp only at hSw); go_simp; try with_reducible rfl)
      try simp only [Act.put, List.setIfInBounds_toArray, List.set_cons_zero, List.set_cons_succ]
      refine wpH_take (i := 29) (some 73) (v := ?x79v) rfl (by kernel_rfl) (by kernel_rfl) (by kernel_rfl) rfl (fun _ _ _ h => h) (Or.inl ⟨by rfl, ?x79y⟩) hHeld ?x79r
      case x79y => (intro w hSw; (try dsimp only at hSw); go_simp; try with_reducible rfl)
      try simp only [Act.put, List.setIfInBounds_toArray, List.set_cons_zero, List.set_cons_succ]
      refine wpH_take (i := 30) (some 74) (v := ?x80v) rfl (by kernel_rfl) (by kernel_rfl) (by kernel_rfl) rfl (fun _ _ _ h => h) (Or.inl ⟨by rfl, ?x80y⟩) hHeld ?x80r
      case x80y => (intro w hSw; (try dsimp only at hSw); go_simp; try with_reducible rfl)
      try simp only [Act.put, List.setIfInBounds_toArray, List.set_cons_zero, List.set_cons_succ]
      refine wpH_take (i := 31) (some 75) (v := ?x81v) rfl (by kernel_rfl) (by kernel_rfl) (by kernel_rfl) rfl (fun _ _ _ h => h) (Or.inl ⟨by rfl, ?x81y⟩) hHeld ?x81r
      case x81y => (intro w hSw; (try dsimp only at hSw); go_simp; try with_reducible rfl)
      try simp only [Act.put, List.setIfInBounds_toArray, List.set_cons_zero, List.set_cons_succ]
      refine wpH_take (i := 32) (some 76) (v := ?x82v) rfl (by kernel_rfl) (by kernel_rfl) (by kernel_rfl) rfl (fun _ _ _ h => h) (Or.inl ⟨by rfl, ?x82y⟩) hHeld ?x82r
      case x82y => (intro w hSw; (try dsimp only at hSw); go_simp; try with_reducible rfl)
      try simp only [Act.put, List.setIfInBounds_toArray, List.set_cons_zero, List.set_cons_succ]
      refine wpH_take (i := 33) (some 77) (v := ?x83v) rfl (by kernel_rfl) (by kernel_rfl) (by kernel_rfl) rfl (fun _ _ _ h => h) (Or.inl ⟨by rfl, ?x83y⟩) hHeld ?x83r
      case x83y => (intro w hSw; (try dsimp only at hSw); go_simp; try with_reducible rfl)
      try simp only [Act.put, List.setIfInBounds_toArray, List.set_cons_zero, List.set_cons_succ]
      refine wpH_one (i := 34) (by kernel_rfl) rfl (fun K hK => ?_)
      rw [if_pos (by rfl)]
      go_simp
      refine (busy_lit _ _ _ [⟨2, 5, 0, 7⟩] [] 2 _ FUc0.out FGc0.out true (by decide)).mono ?_
      rintro e wc1 ⟨rfl, hbb⟩
      have OAc1 := Lib.hid (OAc0.out.below hbb)
      have OBc1 := Lib.hid (OBc0.out.below hbb)
      have FUc1 := Lib.hid (FUc0.out.below hbb)
      have FGc1 := Lib.hid (FGc0.out.below hbb)
      have FAc1 := Lib.hid (FAc0.out.below hbb)
      have GUc1 := Lib.hid (GUc0.out.below hbb)
      have GGc1 := Lib.hid (GGc0.out.below hbb)
      have GAc1 := Lib.hid (GAc0.out.below hbb)
      have BBc1 := Lib.hid (belowTo BBc0.out hbb BBc0.out.size)
      clear hbb OAc0 OBc0 FUc0 FGc0 FAc0 GUc0 GGc0 GAc0 BBc0 hAc00 hAc01 hAc02 hBc00 hBc01 hBc02
      obtain ⟨hAc10, hAc11, hAc12, _, _⟩ := own3 OAc1.out
      obtain ⟨hBc10, hBc11, hBc12, _, _⟩ := own3 OBc1.out
      refine hK.out _ _ (⟨hAc10, hAc11, hAc12, hBc10, hBc11, hBc12⟩) ?_
      clear hK K hHeld
      intro hHeld
      try simp only [Act.put, List.setIfInBounds_toArray, List.set_cons_zero, List.set_cons_succ]
      refine wpH_take (i := 35) (some 79) (v := ?x85v) rfl (by kernel_rfl) (by kernel_rfl) (by kernel_rfl) rfl (fun _ _ _ h => h) (Or.inl ⟨by rfl, ?x85y⟩) hHeld ?x85r
      case x85y => (intro w hSw; (try dsimp only at hSw); go_simp; try with_reducible rfl)
      try simp only [Act.put, List.setIfInBounds_toArray, List.set_cons_zero, List.set_cons_succ]
      refine wpH_take (i := 36) (some 80) (v := ?x86v) rfl (by kernel_rfl) (by kernel_rfl) (by kernel_rfl) rfl (fun _ _ _ h => h) (Or.inl ⟨by rfl, ?x86y⟩) hHeld ?x86r
      case x86y => (intro w hSw; (try dsimp only at hSw); go_simp; try with_reducible rfl)
      try simp only [Act.put, List.setIfInBounds_toArray, List.set_cons_zero, List.set_cons_succ]
      refine wpH_take (i := 37) (some 81) (v := ?x87v) rfl (by kernel_rfl) (by kernel_rfl) (by kernel_rfl) rfl (fun _ _ _ h => h) (Or.inl ⟨by rfl, ?x87y⟩) hHeld ?x87r
      case x87y => (intro w hSw; (try dsimp only at hSw); go_simp; try with_reducible rfl)
      try simp only [Act.put, List.setIfInBounds_toArray, List.set_cons_zero, List.set_cons_succ]
      refine wpH_one (i := 38) (by kernel_rfl) rfl (fun K hK => ?_)
      rw [if_pos (by rfl)]
      go_simp
      refine (busy_lit _ _ _ [⟨2, 5, 0, 7⟩] [] 3 _ FUc1.out FGc1.out false (by decide)).mono ?_
      rintro e wc2 ⟨rfl, hbb⟩
      have OAc2 := Lib.hid (OAc1.out.below hbb)
      have OBc2 := Lib.hid (OBc1.out.below hbb)
      have FUc2 := Lib.hid (FUc1.out.below hbb)
      have FGc2 := Lib.hid (FGc1.out.below hbb)
      have FAc2 := Lib.hid (FAc1.out.below hbb)
      have GUc2 := Lib.hid (GUc1.out.below hbb)
      have GGc2 := Lib.hid (GGc1.out.below hbb)
      have GAc2 := Lib.hid (GAc1.out.below hbb)
      have BBc2 := Lib.hid (belowTo BBc1.out hbb BBc1.out.size)
      clear hbb OAc1 OBc1 FUc1 FGc1 FAc1 GUc1 GGc1 GAc1 BBc1 hAc10 hAc11 hAc12 hBc10 hBc11 hBc12
      obtain ⟨hAc20, hAc21, hAc22, _, _⟩ := own3 OAc2.out
      obtain ⟨hBc20, hBc21, hBc22, _, _⟩ := own3 OBc2.out
      refine hK.out _ _ (⟨hAc20, hAc21, hAc22, hBc20, hBc21, hBc22⟩) ?_
      clear hK K hHeld
      intro hHeld
      try simp only [Act.put, List.setIfInBounds_toArray, List.set_cons_zero, List.set_cons_succ]
      refine wpH_take (i := 39) (some 83) (v := ?x89v) rfl (by kernel_rfl) (by kernel_rfl) (by kernel_rfl) rfl (fun _ _ _ h => h) (Or.inl ⟨by rfl, ?x89y⟩) hHeld ?x89r
      case x89y => (intro w hSw; (try dsimp only at hSw); go_simp; try with_reducible rfl)
      try simp only [Act.put, List.setIfInBounds_toArray, List.set_cons_zero, List.set_cons_succ]
      refine wpH_take (i := 40) (some 84) (v := ?x90v) rfl (by kernel_rfl) (by kernel_rfl) (by kernel_rfl) rfl (fun _ _ _ h => h) (Or.inl ⟨by rfl, ?x90y⟩) hHeld ?x90r
      case x90y => (intro w hSw; (try dsimp only at hSw); go_simp; try with_reducible rfl)
      try simp only [Act.put, List.setIfInBounds_toArray, List.set_cons_zero, List.set_cons_succ]
      refine wpH_take (i := 41) (some 85) (v := ?x91v) rfl (by kernel_rfl) (by kernel_rfl) (by kernel_rfl) rfl (fun _ _ _ h => h) (Or.inl ⟨by rfl, ?x91y⟩) hHeld ?x91r
      case x91y => (intro w hSw; (try dsimp only at hSw); go_simp; try with_reducible rfl)
      try simp only [Act.put, List.setIfInBounds_toArray, List.set_cons_zero, List.set_cons_succ]
      refine wpH_take (i := 42) (some 86) (v := ?x92v) rfl (by kernel_rfl) (by kernel_rfl) (by kernel_rfl) rfl (fun _ _ _ h => h) (Or.inl ⟨by rfl, ?x92y⟩) hHeld ?x92r
      case x92y => (intro w hSw; (try dsimp only at hSw); go_simp; try with_reducible rfl)
      try simp only [Act.put, List.setIfInBounds_toArray, List.set_cons_zero, List.set_cons_succ]
      refine wpH_take (i := 44) (some 88) (v := ?x93v) rfl (by kernel_rfl) (by kernel_rfl) (by kernel_rfl) rfl (fun _ _ _ h => h) (Or.inl ⟨by rfl, ?x93y⟩) hHeld ?x93r
      case x93y => (intro w hSw; (try dsimp only at hSw); go_simp; try with_reducible rfl)
      try simp only [Act.put, List.setIfInBounds_toArray, List.set_cons_zero, List.set_cons_succ]
      refine wpH_one (i := 43) (by kernel_rfl) rfl (fun K hK => ?_)
      rw [if_pos (by rfl)]
      go_simp
      refine (exp_any _ _ _ [] [⟨3, 9, 2, 7, 15⟩] [] 15 _ GUc2.out GGc2.out GAc2.out (by decide) (by decide) (by decide)).mono ?_
      rintro e wc3 ⟨vx1, vx2, vx3, rfl, z1, z2, z3, hbb⟩
      have RxUc3 := Lib.hid (show SlU wc3 vx1 [] from z1)
      obtain ⟨pvx1, cvx1, f0, _, _, _⟩ := RxUc3.out.form 0 rfl
      subst f0
      have RxGc3 := Lib.hid (show SlG wc3 vx2 [⟨3, 9, 2, 7, 15⟩] from z2)
      obtain ⟨pvx2, cvx2, f0, _, _, _⟩ := RxGc3.out.form 1 rfl
      subst f0
      have RxAc3 := Lib.hid (show SlA wc3 vx3 [] from z3)
      obtain ⟨pvx3, cvx3, f0, _, _, _⟩ := RxAc3.out.form 0 rfl
      subst f0
      have OAc3 := Lib.hid (OAc2.out.below hbb)
      have OBc3 := Lib.hid (OBc2.out.below hbb)
      have FUc3 := Lib.hid (FUc2.out.below hbb)
      have FGc3 := Lib.hid (FGc2.out.below hbb)
      have FAc3 := Lib.hid (FAc2.out.below hbb)
      have GUc3 := Lib.hid (GUc2.out.below hbb)
      have GGc3 := Lib.hid (GGc2.out.below hbb)
      have GAc3 := Lib.hid (GAc2.out.below hbb)
      have BBc3 := Lib.hid (belowTo BBc2.out hbb BBc2.out.size)
      clear hbb OAc2 OBc2 FUc2 FGc2 FAc2 GUc2 GGc2 GAc2 BBc2 hAc20 hAc21 hAc22 hBc20 hBc21 hBc22
      obtain ⟨hAc30, hAc31, hAc32, _, _⟩ := own3 OAc3.out
      obtain ⟨hBc30, hBc31, hBc32, _, _⟩ := own3 OBc3.out
      refine hK.out _ _ (⟨hAc30, hAc31, hAc32, hBc30, hBc31, hBc32⟩) ?_
      clear hK K hHeld
      intro hHeld
      try simp only [Act.put, List.setIfInBounds_toArray, List.set_cons_zero, List.set_cons_succ]
      refine wpH_one (i := 45) (by kernel_rfl) rfl (fun K hK => ?_)
      rw [if_pos (by rfl)]
      go_simp
      refine (same_lit _ _ _ _ _ _ [] [] [⟨3, 9, 2, 7, 15⟩] [⟨3, 9, 2, 7, 15⟩] [] [] _ RxUc3.out RxGc3.out RxAc3.out GUc3.out GGc3.out GAc3.out (by decide) (by decide) (by decide) true (by decide)).mono ?_
      rintro e wc4 ⟨rfl, hbb⟩
      have OAc4 := Lib.hid (OAc3.out.below hbb)
      have OBc4 := Lib.hid (OBc3.out.below hbb)
      have FUc4 := Lib.hid (FUc3.out.below hbb)
      have FGc4 := Lib.hid (FGc3.out.below hbb)
      have FAc4 := Lib.hid (FAc3.out.below hbb)
      have GUc4 := Lib.hid (GUc3.out.below hbb)
      have GGc4 := Lib.hid (GGc3.out.below hbb)
      have GAc4 := Lib.hid (GAc3.out.below hbb)
      have BBc4 := Lib.hid (belowTo BBc3.out hbb BBc3.out.size)
      clear hbb OAc3 OBc3 FUc3 FGc3 FAc3 GUc3 GGc3 GAc3 RxUc3 RxGc3 RxAc3 BBc3 hAc30 hAc31 hAc32 hBc30 hBc31 hBc32
      obtain ⟨hAc40, hAc41, hAc42, _, _⟩ := own3 OAc4.out
      obtain ⟨hBc40, hBc41, hBc42, _, _⟩ := own3 OBc4.out
      refine hK.out _ _ (⟨hAc40, hAc41, hAc42, hBc40, hBc41, hBc42⟩) ?_
      clear hK K hHeld
      intro hHeld
      try simp only [Act.put, List.setIfInBounds_toArray, List.set_cons_zero, List.set_cons_succ]
      refine wpH_take (i := 46) (some 90) (v := ?x96v) rfl (by kernel_rfl) (by kernel_rfl) (by kernel_rfl) rfl (fun _ _ _ h => h) (Or.inl ⟨by rfl, ?x96y⟩) hHeld ?x96r
      case x96y => (intro w hSw; (try dsimp only at hSw); go_simp; try with_reducible rfl)
      try simp only [Act.put, List.setIfInBounds_toArray, List.set_cons_zero, List.set_cons_succ]
      refine wpH_take (i := 47) (some 91) (v := ?x97v) rfl (by kernel_rfl) (by kernel_rfl) (by kernel_rfl) rfl (fun _ _ _ h => h) (Or.inl ⟨by rfl, ?x97y⟩) hHeld ?x97r
      case x97y => (intro w hSw; (try dsimp only at hSw); go_simp; try with_reducible rfl)
      try simp only [Act.put, List.setIfInBounds_toArray, List.set_cons_zero, List.set_cons_succ]
      refine wpH_take (i := 48) (some 92) (v := ?x98v) rfl (by kernel_rfl) (by kernel_rfl) (by kernel_rfl) rfl (fun _ _ _ h => h) (Or.inl ⟨by rfl, ?x98y⟩) hHeld ?x98r
      case x98y => (intro w hSw; (try dsimp only at hSw); go_simp; try with_reducible rfl)
      try simp only [Act.put, List.setIfInBounds_toArray, List.set_cons_zero, List.set_cons_succ]
      refine wpH_take (i := 50) (some 94) (v := ?x99v) rfl (by kernel_rfl) (by kernel_rfl) (by kernel_rfl) rfl (fun _ _ _ h => h) (Or.inl ⟨by rfl, ?x99y⟩) hHeld ?x99r
      case x99y => (intro w hSw; (try dsimp only at hSw); go_simp; try with_reducible rfl)
      try simp only [Act.put, List.setIfInBounds_toArray, List.set_cons_zero, List.set_cons_succ]
      refine wpH_one (i := 49) (by kernel_rfl) rfl (fun K hK => ?_)
      rw [if_pos (by rfl)]
      go_simp
      refine (exp_any _ _ _ [] [⟨3, 9, 2, 7, 15⟩] [] 16 _ GUc4.out GGc4.out GAc4.out (by decide) (by decide) (by decide)).mono ?_
      rintro e wc5 ⟨vy1, vy2, vy3, rfl, z1, z2, z3, hbb⟩
      have RyUc5 := Lib.hid (show SlU wc5 vy1 [] from z1)
      obtain ⟨pvy1, cvy1, f0, _, _, _⟩ := RyUc5.out.form 0 rfl
      subst f0
      have RyGc5 := Lib.hid (show SlG wc5 vy2 [] from z2)
      obtain ⟨pvy2, cvy2, f0, _, _, _⟩ := RyGc5.out.form 0 rfl
      subst f0
      have RyAc5 := Lib.hid (show SlA wc5 vy3 [] from z3)
      obtain ⟨pvy3, cvy3, f0, _, _, _⟩ := RyAc5.out.form 0 rfl
      subst f0
      have OAc5 := Lib.hid (OAc4.out.below hbb)
      have OBc5 := Lib.hid (OBc4.out.below hbb)
      have FUc5 := Lib.hid (FUc4.out.below hbb)
      have FGc5 := Lib.hid (FGc4.out.below hbb)
      have FAc5 := Lib.hid (FAc4.out.below hbb)
      have GUc5 := Lib.hid (GUc4.out.below hbb)
      have GGc5 := Lib.hid (GGc4.out.below hbb)
      have GAc5 := Lib.hid (GAc4.out.below hbb)
      have BBc5 := Lib.hid (belowTo BBc4.out hbb BBc4.out.size)
      clear hbb OAc4 OBc4 FUc4 FGc4 FAc4 GUc4 GGc4 GAc4 BBc4 hAc40 hAc41 hAc42 hBc40 hBc41 hBc42
      obtain ⟨hAc50, hAc51, hAc52, _, _⟩ := own3 OAc5.out
      obtain ⟨hBc50, hBc51, hBc52, _, _⟩ := own3 OBc5.out
      refine hK.out _ _ (⟨hAc50, hAc51, hAc52, hBc50, hBc51, hBc52⟩) ?_
      clear hK K hHeld
      intro hHeld
      try simp only [Act.put, List.setIfInBounds_toArray, List.set_cons_zero, List.set_cons_succ]
      refine wpH_one (i := 51) (by kernel_rfl) rfl (fun K hK => ?_)
      rw [if_pos (by rfl)]
      go_simp
      refine (same_lit _ _ _ _ _ _ [] [] [] [] [] [] _ RyUc5.out RyGc5.out RyAc5.out (slt_nil0 _ _) (slt_nil0 _ _) (slt_nil0 _ _) (by decide) (by decide) (by decide) true (by decide)).mono ?_
      rintro e wc6 ⟨rfl, hbb⟩
      have OAc6 := Lib.hid (OAc5.out.below hbb)
      have OBc6 := Lib.hid (OBc5.out.below hbb)
      have FUc6 := Lib.hid (FUc5.out.below hbb)
      have FGc6 := Lib.hid (FGc5.out.below hbb)
      have FAc6 := Lib.hid (FAc5.out.below hbb)
      have GUc6 := Lib.hid (GUc5.out.below hbb)
      have GGc6 := Lib.hid (GGc5.out.below hbb)
      have GAc6 := Lib.hid (GAc5.out.below hbb)
      have BBc6 := Lib.hid (belowTo BBc5.out hbb BBc5.out.size)
      clear hbb OAc5 OBc5 FUc5 FGc5 FAc5 GUc5 GGc5 GAc5 RyUc5 RyGc5 RyAc5 BBc5 hAc50 hAc51 hAc52 hBc50 hBc51 hBc52
      obtain ⟨hAc60, hAc61, hAc62, _, _⟩ := own3 OAc6.out
      obtain ⟨hBc60, hBc61, hBc62, _, _⟩ := own3 OBc6.out
      refine hK.out _ _ (⟨hAc60, hAc61, hAc62, hBc60, hBc61, hBc62⟩) ?_
      clear hK K hHeld
      intro hHeld
      try simp only [Act.put, List.setIfInBounds_toArray, List.set_cons_zero, List.set_cons_succ]
      refine wpH_take (i := 52) (some 96) (v := ?x102v) rfl (by kernel_rfl) (by kernel_rfl) (by kernel_rfl) rfl (fun _ _ _ h => h) (Or.inl ⟨by rfl, ?x102y⟩) hHeld ?x102r
      case x102y => (intro w hSw; (try dsimp only at hSw); go_simp; try with_reducible rfl)
      try simp only [Act.put, List.setIfInBounds_toArray, List.set_cons_zero, List.set_cons_succ]
      refine wpH_take (i := 53) (some 97) (v := ?x103v) rfl (by kernel_rfl) (by kernel_rfl) (by kernel_rfl) rfl (fun _ _ _ h => h) (Or.inl ⟨by rfl, ?x103y⟩) hHeld ?x103r
      case x103y => (intro w hSw; (try dsimp only at hSw); go_simp; try with_reducible rfl)
      try simp only [Act.put, List.setIfInBounds_toArray, List.set_cons_zero, List.set_cons_succ]
      refine wpH_take (i := 54) (some 98) (v := ?x104v) rfl (by kernel_rfl) (by kernel_rfl) (by kernel_rfl) rfl (fun _ _ _ h => h) (Or.inl ⟨by rfl, ?x104y⟩) hHeld ?x104r
      case x104y => (intro w hSw; (try dsimp only at hSw); go_simp; try with_reducible rfl)
      try simp only [Act.put, List.setIfInBounds_toArray, List.set_cons_zero, List.set_cons_succ]
      refine wpH_take (i := 57) (some 101) (v := ?x105v) rfl (by kernel_rfl) (by kernel_rfl) (by kernel_rfl) rfl (fun _ _ _ h => h) (Or.inl ⟨by rfl, ?x105y⟩) hHeld ?x105r
      case x105y => (intro w hSw; (try dsimp only at hSw); go_simp; try with_reducible rfl)
      try simp only [Act.put, List.setIfInBounds_toArray, List.set_cons_zero, List.set_cons_succ]
      refine wpH_one (i := 55) (by kernel_rfl) rfl (fun K hK => ?_)
      rw [if_pos (by rfl)]
      go_simp
      refine (lcell_any 2 5 _).mono ?_
      rintro e wc7 ⟨rfl, hbb⟩
      have OAc7 := Lib.hid (OAc6.out.below hbb)
      have OBc7 := Lib.hid (OBc6.out.below hbb)
      have FUc7 := Lib.hid (FUc6.out.below hbb)
      have FGc7 := Lib.hid (FGc6.out.below hbb)
      have FAc7 := Lib.hid (FAc6.out.below hbb)
      have GUc7 := Lib.hid (GUc6.out.below hbb)
      have GGc7 := Lib.hid (GGc6.out.below hbb)
      have GAc7 := Lib.hid (GAc6.out.below hbb)
      have BBc7 := Lib.hid (belowTo BBc6.out hbb BBc6.out.size)
      clear hbb OAc6 OBc6 FUc6 FGc6 FAc6 GUc6 GGc6 GAc6 BBc6 hAc60 hAc61 hAc62 hBc60 hBc61 hBc62
      obtain ⟨hAc70, hAc71, hAc72, _, _⟩ := own3 OAc7.out
      obtain ⟨hBc70, hBc71, hBc72, _, _⟩ := own3 OBc7.out
      refine hK.out _ _ (⟨hAc70, hAc71, hAc72, hBc70, hBc71, hBc72⟩) ?_
      clear hK K hHeld
      intro hHeld
      try simp only [Act.put, List.setIfInBounds_toArray, List.set_cons_zero, List.set_cons_succ]
      refine wpH_one (i := 56) (by kernel_rfl) rfl (fun K hK => ?_)
      rw [if_pos (by rfl)]
      go_simp
      refine (drop_any _ _ _ [⟨2, 5, 0, 7⟩] [] [] 2 5 _ FUc7.out FGc7.out FAc7.out (by decide) (by decide) (by decide)).mono ?_
      rintro e wc8 ⟨vd1, vd2, vd3, rfl, z1, z2, z3, hbb⟩
      have RdUc8 := Lib.hid (show SlU wc8 vd1 [] from z1)
      obtain ⟨pvd1, cvd1, f0, _, _, _⟩ := RdUc8.out.form 0 rfl
      subst f0
      have RdGc8 := Lib.hid (show SlG wc8 vd2 [] from z2)
      obtain ⟨pvd2, cvd2, f0, _, _, _⟩ := RdGc8.out.form 0 rfl
      subst f0
      have RdAc8 := Lib.hid (show SlA wc8 vd3 [] from z3)
      obtain ⟨pvd3, cvd3, f0, _, _, _⟩ := RdAc8.out.form 0 rfl
      subst f0
      have OAc8 := Lib.hid (OAc7.out.below hbb)
      have OBc8 := Lib.hid (OBc7.out.below hbb)
      have FUc8 := Lib.hid (FUc7.out.below hbb)
      have FGc8 := Lib.hid (FGc7.out.below hbb)
      have FAc8 := Lib.hid (FAc7.out.below hbb)
      have GUc8 := Lib.hid (GUc7.out.below hbb)
      have GGc8 := Lib.hid (GGc7.out.below hbb)
      have GAc8 := Lib.hid (GAc7.out.below hbb)
      have BBc8 := Lib.hid (belowTo BBc7.out hbb BBc7.out.size)
      clear hbb OAc7 OBc7 FUc7 FGc7 FAc7 GUc7 GGc7 GAc7 BBc7 hAc70 hAc71 hAc72 hBc70 hBc71 hBc72
      obtain ⟨hAc80, hAc81, hAc82, _, _⟩ := own3 OAc8.out
      obtain ⟨hBc80, hBc81, hBc82, _, _⟩ := own3 OBc8.out
      refine hK.out _ _ (⟨hAc80, hAc81, hAc82, hBc80, hBc81, hBc82⟩) ?_
      clear hK K hHeld
      intro hHeld
      try simp only [Act.put, List.setIfInBounds_toArray, List.set_cons_zero, List.set_cons_succ]
      refine wpH_one (i := 58) (by kernel_rfl) rfl (fun K hK => ?_)
      rw [if_pos (by rfl)]
      go_simp
      refine (same_lit _ _ _ _ _ _ [] [] [] [] [] [] _ RdUc8.out RdGc8.out RdAc8.out (slt_nil0 _ _) (slt_nil0 _ _) (slt_nil0 _ _) (by decide) (by decide) (by decide) true (by decide)).mono ?_
      rintro e wc9 ⟨rfl, hbb⟩
      have OAc9 := Lib.hid (OAc8.out.below hbb)
      have OBc9 := Lib.hid (OBc8.out.below hbb)
      have FUc9 := Lib.hid (FUc8.out.below hbb)
      have FGc9 := Lib.hid (FGc8.out.below hbb)
      have FAc9 := Lib.hid (FAc8.out.below hbb)
      have GUc9 := Lib.hid (GUc8.out.below hbb)
      have GGc9 := Lib.hid (GGc8.out.below hbb)
      have GAc9 := Lib.hid (GAc8.out.below hbb)
      have BBc9 := Lib.hid (belowTo BBc8.out hbb BBc8.out.size)
      clear hbb OAc8 OBc8 FUc8 FGc8 FAc8 GUc8 GGc8 GAc8 RdUc8 RdGc8 RdAc8 BBc8 hAc80 hAc81 hAc82 hBc80 hBc81 hBc82
      obtain ⟨hAc90, hAc91, hAc92, _, _⟩ := own3 OAc9.out
      obtain ⟨hBc90, hBc91, hBc92, _, _⟩ := own3 OBc9.out
      refine hK.out _ _ (⟨hAc90, hAc91, hAc92, hBc90, hBc91, hBc92⟩) ?_
      clear hK K hHeld
      intro hHeld
      try simp only [Act.put, List.setIfInBounds_toArray, List.set_cons_zero, List.set_cons_succ]
      refine wpH_take (i := 59) (some 103) (v := ?x109v) rfl (by kernel_rfl) (by kernel_rfl) (by kernel_rfl) rfl (fun _ _ _ h => h) (Or.inl ⟨by rfl, ?x109y⟩) hHeld ?x109r
      case x109y => (intro w hSw; (try dsimp only at hSw); go_simp; try with_reducible rfl)
      try simp only [Act.put, List.setIfInBounds_toArray, List.set_cons_zero, List.set_cons_succ]
      refine wpH_take (i := 60) (some 104) (v := ?x110v) rfl (by kernel_rfl) (by kernel_rfl) (by kernel_rfl) rfl (fun _ _ _ h => h) (Or.inl ⟨by rfl, ?x110y⟩) hHeld ?x110r
      case x110y => (intro w hSw; (try dsimp only at hSw); go_simp; try with_reducible rfl)
      try simp only [Act.put, List.setIfInBounds_toArray, List.set_cons_zero, List.set_cons_succ]
      refine wpH_take (i := 61) (some 105) (v := ?x111v) rfl (by kernel_rfl) (by kernel_rfl) (by kernel_rfl) rfl (fun _ _ _ h => h) (Or.inl ⟨by rfl, ?x111y⟩) hHeld ?x111r
      case x111y => (intro w hSw; (try dsimp only at hSw); go_simp; try with_reducible rfl)
      try simp only [Act.put, List.setIfInBounds_toArray, List.set_cons_zero, List.set_cons_succ]
      refine wpH_take (i := 64) (some 108) (v := ?x112v) rfl (by kernel_rfl) (by kernel_rfl) (by kernel_rfl) rfl (fun _ _ _ h => h) (Or.inl ⟨by rfl, ?x112y⟩) hHeld ?x112r
      case x112y => (intro w hSw; (try dsimp only at hSw); go_simp; try with_reducible rfl)
      try simp only [Act.put, List.setIfInBounds_toArray, List.set_cons_zero, List.set_cons_succ]
      refine wpH_one (i := 62) (by kernel_rfl) rfl (fun K hK => ?_)
      rw [if_pos (by rfl)]
      go_simp
      refine (lcell_any 2 6 _).mono ?_
      rintro e wc10 ⟨rfl, hbb⟩
      have OAc10 := Lib.hid (OAc9.out.below hbb)
      have OBc10 := Lib.hid (OBc9.out.below hbb)
      have FUc10 := Lib.hid (FUc9.out.below hbb)
      have FGc10 := Lib.hid (FGc9.out.below hbb)
      have FAc10 := Lib.hid (FAc9.out.below hbb)
      have GUc10 := Lib.hid (GUc9.out.below hbb)
      have GGc10 := Lib.hid (GGc9.out.below hbb)
      have GAc10 := Lib.hid (GAc9.out.below hbb)
      have BBc10 := Lib.hid (belowTo BBc9.out hbb BBc9.out.size)
      clear hbb OAc9 OBc9 FUc9 FGc9 FAc9 GUc9 GGc9 GAc9 BBc9 hAc90 hAc91 hAc92 hBc90 hBc91 hBc92
      obtain ⟨hAc100, hAc101, hAc102, _, _⟩ := own3 OAc10.out
      obtain ⟨hBc100, hBc101, hBc102, _, _⟩ := own3 OBc10.out
      refine hK.out _ _ (⟨hAc100, hAc101, hAc102, hBc100, hBc101, hBc102⟩) ?_
      clear hK K hHeld
      intro hHeld
      try simp only [Act.put, List.setIfInBounds_toArray, List.set_cons_zero, List.set_cons_succ]
      refine wpH_one (i := 63) (by kernel_rfl) rfl (fun K hK => ?_)
      rw [if_pos (by rfl)]
      go_simp
      refine (drop_any _ _ _ [⟨2, 5, 0, 7⟩] [] [] 2 6 _ FUc10.out FGc10.out FAc10.out (by decide) (by decide) (by decide)).mono ?_
      rintro e wc11 ⟨vf1, vf2, vf3, rfl, z1, z2, z3, hbb⟩
      have RfUc11 := Lib.hid (show SlU wc11 vf1 [⟨2, 5, 0, 7⟩] from z1)
      obtain ⟨pvf1, cvf1, f0, _, _, _⟩ := RfUc11.out.form 1 rfl
      subst f0
      have RfGc11 := Lib.hid (show SlG wc11 vf2 [] from z2)
      obtain ⟨pvf2, cvf2, f0, _, _, _⟩ := RfGc11.out.form 0 rfl
      subst f0
      have RfAc11 := Lib.hid (show SlA wc11 vf3 [] from z3)
      obtain ⟨pvf3, cvf3, f0, _, _, _⟩ := RfAc11.out.form 0 rfl
      subst f0
      have OAc11 := Lib.hid (OAc10.out.below hbb)
      have OBc11 := Lib.hid (OBc10.out.below hbb)
      have FUc11 := Lib.hid (FUc10.out.below hbb)
      have FGc11 := Lib.hid (FGc10.out.below hbb)
      have FAc11 := Lib.hid (FAc10.out.below hbb)
      have GUc11 := Lib.hid (GUc10.out.below hbb)
      have GGc11 := Lib.hid (GGc10.out.below hbb)
      have GAc11 := Lib.hid (GAc10.out.below hbb)
      have BBc11 := Lib.hid (belowTo BBc10.out hbb BBc10.out.size)
      clear hbb OAc10 OBc10 FUc10 FGc10 FAc10 GUc10 GGc10 GAc10 BBc10 hAc100 hAc101 hAc102 hBc100 hBc101 hBc102
      obtain ⟨hAc110, hAc111, hAc112, _, _⟩ := own3 OAc11.out
      obtain ⟨hBc110, hBc111, hBc112, _, _⟩ := own3 OBc11.out
      refine hK.out _ _ (⟨hAc110, hAc111, hAc112, hBc110, hBc111, hBc112⟩) ?_
      clear hK K hHeld
      intro hHeld
      try simp only [Act.put, List.setIfInBounds_toArray, List.set_cons_zero, List.set_cons_succ]
      refine wpH_one (i := 65) (by kernel_rfl) rfl (fun K hK => ?_)
      rw [if_pos (by rfl)]
      go_simp
      refine (same_lit _ _ _ _ _ _ [⟨2, 5, 0, 7⟩] [⟨2, 5, 0, 7⟩] [] [] [] [] _ RfUc11.out RfGc11.out RfAc11.out FUc11.out FGc11.out FAc11.out (by decide) (by decide) (by decide) true (by decide)).mono ?_
      rintro e wc12 ⟨rfl, hbb⟩
      have OAc12 := Lib.hid (OAc11.out.below hbb)
      have OBc12 := Lib.hid (OBc11.out.below hbb)
      have FUc12 := Lib.hid (FUc11.out.below hbb)
      have FGc12 := Lib.hid (FGc11.out.below hbb)
      have FAc12 := Lib.hid (FAc11.out.below hbb)
      have GUc12 := Lib.hid (GUc11.out.below hbb)
      have GGc12 := Lib.hid (GGc11.out.below hbb)
      have GAc12 := Lib.hid (GAc11.out.below hbb)
      have BBc12 := Lib.hid (belowTo BBc11.out hbb BBc11.out.size)
      clear hbb OAc11 OBc11 FUc11 FGc11 FAc11 GUc11 GGc11 GAc11 RfUc11 RfGc11 RfAc11 BBc11 hAc110 hAc111 hAc112 hBc110 hBc111 hBc112
      obtain ⟨hAc120, hAc121, hAc122, _, _⟩ := own3 OAc12.out
      obtain ⟨hBc120, hBc121, hBc122, _, _⟩ := own3 OBc12.out
      refine hK.out _ _ (⟨hAc120, hAc121, hAc122, hBc120, hBc121, hBc122⟩) ?_
      clear hK K hHeld
      intro hHeld
      try simp only [Act.put, List.setIfInBounds_toArray, List.set_cons_zero, List.set_cons_succ]
      refine wpH_take (i := 66) (some 110) (v := ?x116v) rfl (by kernel_rfl) (by kernel_rfl) (by kernel_rfl) rfl (fun _ _ _ h => h) (Or.inl ⟨by rfl, ?x116y⟩) hHeld ?x116r
      case x116y => (intro w hSw; (try dsimp only at hSw); go_simp; try with_reducible rfl)
      try simp only [Act.put, List.setIfInBounds_toArray, List.set_cons_zero, List.set_cons_succ]
      refine wpH_take (i := 67) (some 111) (v := ?x117v) rfl (by kernel_rfl) (by kernel_rfl) (by kernel_rfl) rfl (fun _ _ _ h => h) (Or.inl ⟨by rfl, ?x117y⟩) hHeld ?x117r
      case x117y => (intro w hSw; (try dsimp only at hSw); go_simp; try with_reducible rfl)
      try simp only [Act.put, List.setIfInBounds_toArray, List.set_cons_zero, List.set_cons_succ]
      refine wpH_take (i := 68) (some 112) (v := ?x118v) rfl (by kernel_rfl) (by kernel_rfl) (by kernel_rfl) rfl (fun _ _ _ h => h) (Or.inl ⟨by rfl, ?x118y⟩) hHeld ?x118r
      case x118y => (intro w hSw; (try dsimp only at hSw); go_simp; try with_reducible rfl)
      try simp only [Act.put, List.setIfInBounds_toArray, List.set_cons_zero, List.set_cons_succ]
      refine wpH_one (i := 69) (by kernel_rfl) rfl (fun K hK => ?_)
      rw [if_pos (by rfl)]
      go_simp
      refine (layout_any _).mono ?_
      rintro e wc13 ⟨rfl, hbb⟩
      have OAc13 := Lib.hid (OAc12.out.below hbb)
      have OBc13 := Lib.hid (OBc12.out.below hbb)
      have FUc13 := Lib.hid (FUc12.out.below hbb)
      have FGc13 := Lib.hid (FGc12.out.below hbb)
      have FAc13 := Lib.hid (FAc12.out.below hbb)
      have GUc13 := Lib.hid (GUc12.out.below hbb)
      have GGc13 := Lib.hid (GGc12.out.below hbb)
      have GAc13 := Lib.hid (GAc12.out.below hbb)
      have BBc13 := Lib.hid (belowTo BBc12.out hbb BBc12.out.size)
      clear hbb OAc12 OBc12 FUc12 FGc12 FAc12 GUc12 GGc12 GAc12 BBc12 hAc120 hAc121 hAc122 hBc120 hBc121 hBc122
      obtain ⟨hAc130, hAc131, hAc132, _, _⟩ := own3 OAc13.out
      obtain ⟨hBc130, hBc131, hBc132, _, _⟩ := own3 OBc13.out
      refine hK.out _ _ (⟨hAc130, hAc131, hAc132, hBc130, hBc131, hBc132⟩) ?_
      clear hK K hHeld
      intro hHeld
      try simp only [Act.put, List.setIfInBounds_toArray, List.set_cons_zero, List.set_cons_succ]
      refine wpH_one (i := 70) (by kernel_rfl) rfl (fun K hK => ?_)
      rw [if_pos (by rfl)]
      go_simp
      refine (valid_lit _ _ _ [] [⟨3, 9, 2, 7, 15⟩] [] 3 4 _ GUc13.out GGc13.out GAc13.out (by decide) (by decide) (by decide) true (by decide)).mono ?_
      rintro e wc14 ⟨rfl, hbb⟩
      have OAc14 := Lib.hid (OAc13.out.below hbb)
      have OBc14 := Lib.hid (OBc13.out.below hbb)
      have FUc14 := Lib.hid (FUc13.out.below hbb)
      have FGc14 := Lib.hid (FGc13.out.below hbb)
      have FAc14 := Lib.hid (FAc13.out.below hbb)
      have GUc14 := Lib.hid (GUc13.out.below hbb)
      have GGc14 := Lib.hid (GGc13.out.below hbb)
      have GAc14 := Lib.hid (GAc13.out.below hbb)
      have BBc14 := Lib.hid (belowTo BBc13.out hbb BBc13.out.size)
      clear hbb OAc13 OBc13 FUc13 FGc13 FAc13 GUc13 GGc13 GAc13 BBc13 hAc130 hAc131 hAc132 hBc130 hBc131 hBc132
      obtain ⟨hAc140, hAc141, hAc142, _, _⟩ := own3 OAc14.out
      obtain ⟨hBc140, hBc141, hBc142, _, _⟩ := own3 OBc14.out
      refine hK.out _ _ (⟨hAc140, hAc141, hAc142, hBc140, hBc141, hBc142⟩) ?_
      clear hK K hHeld
      intro hHeld
      try simp only [Act.put, List.setIfInBounds_toArray, List.set_cons_zero, List.set_cons_succ]
      refine wpH_take (i := 71) (some 115) (v := ?x121v) rfl (by kernel_rfl) (by kernel_rfl) (by kernel_rfl) rfl (fun _ _ _ h => h) (Or.inl ⟨by rfl, ?x121y⟩) hHeld ?x121r
      case x121y => (intro w hSw; (try dsimp only at hSw); go_simp; try with_reducible rfl)
      try simp only [Act.put, List.setIfInBounds_toArray, List.set_cons_zero, List.set_cons_succ]
      refine wpH_take (i := 72) (some 116) (v := ?x122v) rfl (by kernel_rfl) (by kernel_rfl) (by kernel_rfl) rfl (fun _ _ _ h => h) (Or.inl ⟨by rfl, ?x122y⟩) hHeld ?x122r
      case x122y => (intro w hSw; (try dsimp only at hSw); go_simp; try with_reducible rfl)
      try simp only [Act.put, List.setIfInBounds_toArray, List.set_cons_zero, List.set_cons_succ]
      refine wpH_take (i := 73) (some 117) (v := ?x123v) rfl (by kernel_rfl) (by kernel_rfl) (by kernel_rfl) rfl (fun _ _ _ h => h) (Or.inl ⟨by rfl, ?x123y⟩) hHeld ?x123r
      case x123y => (intro w hSw; (try dsimp only at hSw); go_simp; try with_reducible rfl)
      try simp only [Act.put, List.setIfInBounds_toArray, List.set_cons_zero, List.set_cons_succ]
      refine wpH_take (i := 74) (some 118) (v := ?x124v) rfl (by kernel_rfl) (by kernel_rfl) (by kernel_rfl) rfl (fun _ _ _ h => h) (Or.inl ⟨by rfl, ?x124y⟩) hHeld ?x124r
      case x124y => (intro w hSw; (try dsimp only at hSw); go_simp; try with_reducible rfl)
      try simp only [Act.put, List.setIfInBounds_toArray, List.set_cons_zero, List.set_cons_succ]
      refine wpH_one (i := 75) (by kernel_rfl) rfl (fun K hK => ?_)
      rw [if_pos (by rfl)]
      go_simp
      refine (valid_lit _ _ _ [] [⟨3, 9, 2, 7, 15⟩] [] 2 4 _ GUc14.out GGc14.out GAc14.out (by decide) (by decide) (by decide) false (by decide)).mono ?_
      rintro e wc15 ⟨rfl, hbb⟩
      have OAc15 := Lib.hid (OAc14.out.below hbb)
      have OBc15 := Lib.hid (OBc14.out.below hbb)
      have FUc15 := Lib.hid (FUc14.out.below hbb)
      have FGc15 := Lib.hid (FGc14.out.below hbb)
      have FAc15 := Lib.hid (FAc14.out.below hbb)
      have GUc15 := Lib.hid (GUc14.out.below hbb)
      have GGc15 := Lib.hid (GGc14.out.below hbb)
      have GAc15 := Lib.hid (GAc14.out.below hbb)
      have BBc15 := Lib.hid (belowTo BBc14.out hbb BBc14.out.size)
      clear hbb OAc14 OBc14 FUc14 FGc14 FAc14 GUc14 GGc14 GAc14 BBc14 hAc140 hAc141 hAc142 hBc140 hBc141 hBc142
      obtain ⟨hAc150, hAc151, hAc152, _, _⟩ := own3 OAc15.out
      obtain ⟨hBc150, hBc151, hBc152, _, _⟩ := own3 OBc15.out
      refine hK.out _ _ (⟨hAc150, hAc151, hAc152, hBc150, hBc151, hBc152⟩) ?_
      clear hK K hHeld
      intro hHeld
      try simp only [Act.put, List.setIfInBounds_toArray, List.set_cons_zero, List.set_cons_succ]
      refine wpH_take (i := 76) (some 120) (v := ?x126v) rfl (by kernel_rfl) (by kernel_rfl) (by kernel_rfl) rfl (fun _ _ _ h => h) (Or.inl ⟨by rfl, ?x126y⟩) hHeld ?x126r
      case x126y => (intro w hSw; (try dsimp only at hSw); go_simp; try with_reducible rfl)
      try simp only [Act.put, List.setIfInBounds_toArray, List.set_cons_zero, List.set_cons_succ]
      refine wpH_take (i := 77) (some 121) (v := ?x127v) rfl (by kernel_rfl) (by kernel_rfl) (by kernel_rfl) rfl (fun _ _ _ h => h) (Or.inl ⟨by rfl, ?x127y⟩) hHeld ?x127r
      case x127y => (intro w hSw; (try dsimp only at hSw); go_simp; try with_reducible rfl)
      try simp only [Act.put, List.setIfInBounds_toArray, List.set_cons_zero, List.set_cons_succ]
      refine wpH_take (i := 78) (some 0) (v := ?x128v) rfl (by kernel_rfl) (by kernel_rfl) (by kernel_rfl) rfl (fun _ _ _ h => h) (Or.inl ⟨by rfl, ?x128y⟩) hHeld ?x128r
      case x128y => (intro w hSw; (try dsimp only at hSw); go_simp; try with_reducible rfl)
      try simp only [Act.put, List.setIfInBounds_toArray, List.set_cons_zero, List.set_cons_succ]
      refine wpAnyH_done (by kernel_rfl) ?_ _
      have oA := OAc15.out
      have oB := OBc15.out
      have bel := BBc15.out
      have FU := FUc15
      have FG := FGc15
      have FA := FAc15
      have GU := GUc15
      have GG := GGc15
      have GA := GAc15
      clear OAc15 OBc15 BBc15 FUc15 FGc15 FAc15 GUc15 GGc15 GAc15 hAc150 hAc151 hAc152 hBc150 hBc151 hBc152
      obtain ⟨cA0, cA1, cA2, fA, zA⟩ := own3 oA
      obtain ⟨cB0, cB1, cB2, fB, zB⟩ := own3 oB
      go_wp2_with fail
      go_ret
      exact ⟨rfl, bel⟩

end Go.Proofs.Ytdmadnoijhmbcaa
