/- TopChain: the walk. -/
import Derived.Test.YthnilgmafbkdkaaStore17
import Derived.Test.YthnilgmafbkdkaaTells17b
import Derived.Test.YthnilgmafbkdkaaRValid
import Derived.Test.YthnilgmafbkdkaaTrue08
import Derived.Test.YthnilgmafbkdkaaEq09
import Derived.Laws.AppendOwn
import Derived.Laws.OwnMore
import Derived.Deep.AppendLies
namespace Go.Proofs.Ythnilgmafbkdkaa
open Go.RowKit

structure Hop where
  f : Int
  t : Int
  w : Int
def Hop.cells (s : Hop) : List Value := [.int .u8 s.f, .int .u8 s.t, .int .u16 s.w]
def hopL : Lay Hop := ⟨Hop.cells, 3, by decide, fun _ => rfl, fun a u h => by simp only [Hop.cells, List.mem_cons, List.not_mem_nil, or_false] at h; rcases h with rfl | rfl | rfl <;> rfl⟩
theorem SlT.at3 {w w' : World} {p : Option Addr} {n cap : Nat} {ls : List Hop} (h : SlT hopL w (.slice p n cap) ls) (bel : Below w.heap.size w w') {i : Nat} (hi : i < ls.length) :
    ∃ a b off, ls[i]? = some a ∧ p = some ⟨b, off, none⟩ ∧ b < w'.heap.size ∧ b < w.heap.size ∧ w'.cell? ⟨b, off + i * 3, none⟩ = some (.int .u8 a.f) ∧ w'.cell? ⟨b, off + i * 3 + 1, none⟩ = some (.int .u8 a.t) ∧ w'.cell? ⟨b, off + i * 3 + 2, none⟩ = some (.int .u16 a.w) := by
  obtain ⟨a, b, off, h1, h2, h3, h4, h5⟩ := h.at bel hi
  exact ⟨a, b, off, h1, h2, h3, h4, h5 0 _ rfl, h5 1 _ rfl, h5 2 _ rfl⟩
theorem info_ck : (Try.prog.info? 27).map (fun i => (i.zero, i.size, i.bytes)) = some (some (.agg #[.int .i64 0, .int .i64 0]), 2, 16) := by kernel_rfl
theorem info_ts : (Try.prog.info? 25).map (fun i => (i.zero, i.size, i.bytes)) = some (some (.agg #[.bool false, .int .i64 0, .int .i64 0, .int .i64 0, .int .i64 0, .int .i64 0, .int .i64 0]), 7, 56) := by kernel_rfl
def startS (i : Nat) : Stt := if i = 0 then rootS else offS
def startL (i : Nat) : List Stt := (List.range i).map startS
theorem startL_len (i : Nat) : (startL i).length = i := by simp [startL]
theorem startL_succ (i : Nat) : startL (i + 1) = startL i ++ [startS i] := by simp [startL, List.range_succ]
theorem startS_cells (i : Nat) : (.agg #[.bool ((i : Int) == 0), .int .i64 0, .int .i64 0, .int .i64 0, .int .i64 (if ((i : Int) == 0) = true then 0 else 60), .int .i64 (-1), .int .i64 0] : Value) = .agg #[.bool (startS i).sy, .int .i64 (startS i).l, .int .i64 (startS i).h, .int .i64 (startS i).a, .int .i64 (startS i).k, .int .i64 (startS i).src, .int .i64 (startS i).he] := by
  by_cases h : i = 0
  · subst h; rfl
  · rw [show ((i : Int) == 0) = false from beq_eq_false_iff_ne.2 (by omega), startS, if_neg h]; rfl
theorem nat_beq0 (f : Nat) : ((f : Int) == 0) = (f == 0) := Bool.eq_iff_iff.2 (by simp only [beq_iff_eq]; omega)
theorem news7 (w : World) (s : Stt) (t : TypeId) : ∀ j u, (stL.f s)[j]? = some u → (w.alloc (.cells #[.bool s.sy, .int .i64 s.l, .int .i64 s.h, .int .i64 s.a, .int .i64 s.k, .int .i64 s.src, .int .i64 s.he] t)).cell? ((⟨w.heap.size, 0, none⟩ : Addr).add j) = some u := newsT (L := stL) w s t

theorem store_ownC {w : World} {b : Nat} {cs : List Value} {t : TypeId} (h : Own w b cs t) (vs : Array Value) (hl : cs.length = vs.size) (hi : (Try.prog.info? 25).map (·.size) = some vs.size) (h1 : vs.all (·.oneCell') = true) :
    (Instr.storeAt 25 (.pointer (some ⟨b, 0, none⟩)) (.agg vs)).run Try.prog w = .ok () (w.setCells b 0 vs.toList) :=
  run_storeAt_mid w b 0 _ vs (fun j hj => by
    rw [Nat.zero_add]
    exact ⟨by rw [h.cell (List.getElem?_eq_getElem (by omega))]; rfl, h.frozen j⟩) hi h1
theorem upon_then {P : Program} {op : Oper} {a : Act} {K : Act → World → Prop} {Q : Exit → Act → World → Prop} {r : Result Unit} {f : Unit → World → Result Next} {w' : World} (h : r = .ok () w') (g : Oper.upon P op a K Q (f () w')) : Oper.upon P op a K Q (r.andThen f) := by
  rw [h]; exact g
theorem own_setCells_at {b : Nat} {t : TypeId} : ∀ (vs old pre : List Value) (w : World), Own w b (pre ++ old) t → old.length = vs.length → Own (w.setCells b pre.length vs) b (pre ++ vs) t
  | [], old, pre, w, h, hl => by obtain rfl : old = [] := List.eq_nil_of_length_eq_zero hl; exact h
  | v :: vs, x :: old, pre, w, h, hl => by
    have h1 := h.set pre.length v
    rw [show (pre ++ x :: old).set pre.length v = (pre ++ [v]) ++ old by simp] at h1
    have h2 := own_setCells_at vs old (pre ++ [v]) _ h1 (by simpa using hl)
    rw [List.length_append, List.length_singleton, List.append_assoc] at h2
    exact h2
theorem own_whole {b : Nat} {t : TypeId} {vs old : List Value} {w : World} (h : Own w b old t) (hl : old.length = vs.length) : Own (w.setCells b 0 vs) b vs t := own_setCells_at vs old [] w h hl
theorem cell_drewC {w : World} {a : Addr} : w.drew.cell? a = w.cell? a := rfl
theorem size_setCellsC (b : Nat) : ∀ (vs : List Value) (o : Nat) (w : World), (w.setCells b o vs).heap.size = w.heap.size
  | [], _, _ => rfl
  | v :: vs, o, w => by rw [World.setCells, size_setCellsC b vs]; simp
theorem cell_setCellsC {b n i : Nat} (h : b < n) (vs : List Value) (o : Nat) (w : World) : (w.setCells n o vs).cell? ⟨b, i, none⟩ = w.cell? ⟨b, i, none⟩ :=
  World.cell?_setCells_out n vs o w _ (fun e => by simp only at e; omega)
theorem info_tsC : (Try.prog.info? 25).map (·.size) = some 7 := by kernel_rfl
theorem storeS {ops : Array Oper} {rest : List Oper} {op : Oper} {a : Act} {w : World} {Q : Exit → Act → World → Prop} (z : Stt) (b o : Nat) (hgd : op.guard = none)
    (hs : ∃ x y : Operand, op.op = .store 25 x y ∧ a.eval x = .pointer (some ⟨b, o, none⟩) ∧ a.eval y = .agg #[.bool z.sy, .int .i64 z.l, .int .i64 z.h, .int .i64 z.a, .int .i64 z.k, .int .i64 z.src, .int .i64 z.he]) (ht : w.there b o 7)
    (h : wpList Try.prog ops Q rest (a.put op.dst undef) (w.setCells b o [.bool z.sy, .int .i64 z.l, .int .i64 z.h, .int .i64 z.a, .int .i64 z.k, .int .i64 z.src, .int .i64 z.he])) : wpList Try.prog ops Q (op :: rest) a w := by
  obtain ⟨x, y, ho, hx, hy⟩ := hs
  exact wpList_store_mid hgd 25 x y ho b o #[.bool z.sy, .int .i64 z.l, .int .i64 z.h, .int .i64 z.a, .int .i64 z.k, .int .i64 z.src, .int .i64 z.he] hx hy ht info_tsC (by simp [Value.oneCell']) h

set_option linter.unusedVariables false in
set_option maxRecDepth 100000 in
set_option maxHeartbeats 20000000 in
theorem chain_walk (v u : Value) (cs0 : List Ck) (hs : List Hop) (q : Int) (w : World) (sl : SlT ckL w v cs0) (sh : SlT hopL w u hs) (q0 : 0 ≤ q) (q1 : q ≤ 4294967295) (hr : ∀ h ∈ hs, 0 ≤ h.f ∧ h.f ≤ 255 ∧ 0 ≤ h.t ∧ h.t ≤ 255 ∧ 0 ≤ h.w ∧ h.w ≤ 65535) :
    Calls Try.prog 4 #[v, u, .int .u32 q] w fun e w' => e = .returned (.bool true) ∧ Below w.heap.size w w' := by
  obtain ⟨p, cap, e0, hlc, hcm, hpn⟩ := sl.form cs0.length rfl
  subst e0
  obtain ⟨p2, cap2, e0, hlc2, hcm2, hpn2⟩ := sh.form hs.length rfl
  subst e0
  have SL := Lib.hid sl
  have SH := Lib.hid sh
  have HR := Lib.hid hr
  unfold maxLen at hcm hcm2
  clear hpn hpn2 sl sh hr
  by_cases hb : cs0.length = 0 ∨ 6 < cs0.length ∨ 60 < hs.length
  · rcases hb with h1 | h1 | h1
    · have g1 : ((cs0.length : Int) == 0) = true := by simp [h1]
      clear h1
      go_enter Try.func4, Try.ntmps4
      go_wp2_with fail
      refine (time17_any _).mono ?_
      rintro e w1 ⟨rfl, hb⟩
      have bel := belowTo (Below.refl w.heap.size w) hb (by simp)
      clear hb
      go_wp2_with fail
      all_goals (go_ret; exact ⟨rfl, bel⟩)
    · have g1 : ((cs0.length : Int) == 0) = false := beq_eq_false_iff_ne.2 (by omega)
      have g2 : decide (6 < (cs0.length : Int)) = true := by simp; omega
      go_enter Try.func4, Try.ntmps4
      go_wp2_with fail
      refine (time17_any _).mono ?_
      rintro e w1 ⟨rfl, hb⟩
      have bel := belowTo (Below.refl w.heap.size w) hb (by simp)
      clear hb
      go_wp2_with fail
      all_goals (go_ret; exact ⟨rfl, bel⟩)
    · by_cases g0 : cs0.length = 0 ∨ 6 < cs0.length
      · rcases g0 with h2 | h2
        · have g1 : ((cs0.length : Int) == 0) = true := by simp [h2]
          clear h2
          go_enter Try.func4, Try.ntmps4
          go_wp2_with fail
          refine (time17_any _).mono ?_
          rintro e w1 ⟨rfl, hb⟩
          have bel := belowTo (Below.refl w.heap.size w) hb (by simp)
          clear hb
          go_wp2_with fail
          all_goals (go_ret; exact ⟨rfl, bel⟩)
        · have g1 : ((cs0.length : Int) == 0) = false := beq_eq_false_iff_ne.2 (by omega)
          have g2 : decide (6 < (cs0.length : Int)) = true := by simp; omega
          go_enter Try.func4, Try.ntmps4
          go_wp2_with fail
          refine (time17_any _).mono ?_
          rintro e w1 ⟨rfl, hb⟩
          have bel := belowTo (Below.refl w.heap.size w) hb (by simp)
          clear hb
          go_wp2_with fail
          all_goals (go_ret; exact ⟨rfl, bel⟩)
      · have g1 : ((cs0.length : Int) == 0) = false := beq_eq_false_iff_ne.2 (by omega)
        have g2 : decide (6 < (cs0.length : Int)) = false := by simp; omega
        have g3 : decide (60 < (hs.length : Int)) = true := by simp; omega
        go_enter Try.func4, Try.ntmps4
        go_wp2_with fail
        refine (time17_any _).mono ?_
        rintro e w1 ⟨rfl, hb⟩
        have bel := belowTo (Below.refl w.heap.size w) hb (by simp)
        clear hb
        go_wp2_with fail
        all_goals (go_ret; exact ⟨rfl, bel⟩)
  · have h1 : 0 < cs0.length := by omega
    have h2 : cs0.length ≤ 6 := by omega
    have h3 : hs.length ≤ 60 := by omega
    clear hb
    have g1 : ((cs0.length : Int) == 0) = false := beq_eq_false_iff_ne.2 (by omega)
    have g2 : decide (6 < (cs0.length : Int)) = false := by simp; omega
    have g3 : decide (60 < (hs.length : Int)) = false := by simp; omega
    obtain ⟨i0, hi, hz, hs0, hb0⟩ := info_parts info_ck
    have IC := Lib.hid (And.intro hi (And.intro hz (And.intro hs0 hb0)))
    clear hi hz hs0 hb0
    obtain ⟨i1, hi, hz, hs0, hb0⟩ := info_parts info_ts
    have IT := Lib.hid (And.intro hi (And.intro hz (And.intro hs0 hb0)))
    clear hi hz hs0 hb0
    have HP := Lib.hid SL.out.none_len
    cases p with
    | none => have := HP.out rfl; subst this; exact absurd h1 (by simp)
    | some ad =>
      go_enter Try.func4, Try.ntmps4
      go_wp2_with fail
      refine (time17_any _).mono ?_
      rintro e w1 ⟨rfl, hb⟩
      have bel := belowTo (Below.refl w.heap.size w) hb (by simp)
      clear hb
      have B1 := Lib.hid bel
      have OL := Lib.hid ((SL.out.below bel).below (belowNew w1 (.cells #[.int .i64 0, .int .i64 0] 27))).olds
      go_wp2_with (at_builtin; refine wpList_append_own _ rfl _ _ 34 rfl w1.heap.size 27 i0 _ 2 16 (by kernel_rfl) IC.out.1 IC.out.2.1 IC.out.2.2.1 IC.out.2.2.2 rfl (by decide) _ _ _ rfl (World.ownsRow_lit w1 #[.int .i64 0, .int .i64 0] 1 (Nat.le_refl _) (by decide) rfl) ad cs0.length cap (flatT ckL cs0) rfl (flatT_len cs0) (OL.out ad rfl) flatT_cell ?qc4 ?qc5 ?qc6 ?_)
      case qc4 => unfold maxLen; omega
      case qc5 => omega
      case qc6 => simp
      intro v2 w2 hown hgrow hnil
      clear hnil
      obtain ⟨n, hn⟩ : ∃ n, 1 + cs0.length = n := ⟨_, rfl⟩
      obtain ⟨cs, hcs⟩ : ∃ cs : List Ck, (⟨0, 0⟩ :: cs0) = cs := ⟨_, rfl⟩
      have hn1 : 0 < n := by omega
      have hn7 : n ≤ 7 := by omega
      have CN := Lib.hid (show cs.length = n by rw [← hcs, ← hn, List.length_cons, Nat.add_comm])
      have C0 := Lib.hid (show ∀ c, cs[0]? = some c → c = ⟨0, 0⟩ by rw [← hcs]; intro c hc; exact (Option.some.inj hc).symm)
      rw [hn] at hown
      have hown' : w2.ownsRow w1.heap.size 27 2 v2 n (flatT ckL cs) := by rw [← hcs]; exact hown
      clear hown
      obtain ⟨gA, capA, rfl, hgA, hgA2⟩ := hown'.form hn1
      have SC := Lib.hid (show SlT ckL w2 (.slice (some ⟨gA, 0, none⟩) n capA) cs from slt_of_own (L := ckL) (base := w1.heap.size) (t := 27) (by rw [CN.out]; exact hown'))
      have hcA : capA ≤ maxLen := by
        obtain ⟨_, ⟨e, _⟩ | ⟨_, _, _, e, _, _, _, h, _⟩⟩ := hown'
        · cases e
        · injection e with _ _ e; rw [e]; exact h
      have hcA1 : n ≤ capA := by
        obtain ⟨_, ⟨e, _⟩ | ⟨_, _, _, e, _, _, h, _, _⟩⟩ := hown'
        · cases e
        · injection e with _ _ e; rw [e]; exact h
      replace bel := (bel.alloc bel.size _).grown hgrow (by have := bel.size; simp; omega) (fun k hk => by have := bel.size; simp [Value.ownBlock] at hk; omega)
      have B2 := Lib.hid bel
      unfold maxLen at hcA
      clear hown' hgrow hgA hcs hn OL B1 HP
      obtain ⟨oA, hoA⟩ : ∃ o : Nat, 0 = o := ⟨_, rfl⟩
      have HOA := Lib.hid hoA
      have eA : (⟨gA, 0, none⟩ : Addr) = ⟨gA, oA, none⟩ := by rw [← hoA]
      rw [eA] at SC ⊢
      clear hoA eA
      go_wp2_with fail
      go_loopw [9, 10] (fun l ii wr => ∃ (i : Nat), i ≤ n ∧ ii = .int .i64 i ∧ wr.ownsRow w2.heap.size 25 7 l (startL i).length (flatT stL (startL i)) ∧ (∀ j c, j < i → cs[j]? = some c → vldB c.o c.d = true) ∧ Below w2.heap.size w2 wr) (fun _ i _ => n - (intOf i).toNat)
      case atStart => exact ⟨0, by omega, rfl, World.ownsRow_nil _ _ _ _, fun j c h => absurd h (by omega), Below.refl _ _⟩
      case round =>
        clear bel
        obtain ⟨i, hi, rfl, hown, hval, bel⟩ := hrel
        have HOWN := Lib.hid hown
        have HV := Lib.hid hval
        have BE := Lib.hid bel
        have hwz := bel.size
        clear hown hval bel
        by_cases hlt : i < n
        · obtain ⟨c, b, off, hc, e1, hbl, _, d0, d1⟩ := SC.out.at2 BE.out (i := i) (by rw [CN.out]; exact hlt)
          have j0 : (0 : Int) ≤ (i : Int) := Int.natCast_nonneg _
          have j1 : (i : Int) < (n : Int) := by omega
          have HC := Lib.hid hc
          cases e1
          clear hc
          cases hx : vldB c.o c.d with
          | false =>
            have HX := Lib.hid hx
            clear hx
            go_wp2_with fail
            refine (rvalid_lit c.o c.d false _ HX.out).mono ?_
            rintro e w3 ⟨rfl, hb⟩
            have B3 := Lib.hid (belowTo (B2.out.trans (BE.out.mono B2.out.size)) hb (by have := BE.out.size; have := B2.out.size; omega))
            clear hb
            go_wp2_with fail
            go_ret
            exact ⟨rfl, B3.out⟩
          | true =>
            have HX := Lib.hid hx
            clear hx
            go_wp2_with fail
            refine (rvalid_lit c.o c.d true _ HX.out).mono ?_
            rintro e w3 ⟨rfl, hb⟩
            have hwb := hb.size
            have HO3 := Lib.hid (ownsRow_belowW HOWN.out hb)
            have B3 := Lib.hid (belowTo BE.out hb (by have := BE.out.size; omega))
            clear hb
            go_wp2_with fail
            refine (start_any ((i : Int) == 0) _).mono ?_
            rintro e w4 ⟨rfl, hb⟩
            rw [startS_cells i]
            have hwb4 := hb.size
            have HO4 := Lib.hid (ownsRow_belowW HO3.out hb)
            have B4 := Lib.hid (belowTo B3.out hb (by have := BE.out.size; omega))
            clear hb HOWN
            go_wp2_with (at_builtin; refine wpList_append_own _ rfl _ _ 37 rfl w2.heap.size 25 i1 _ 7 56 (by kernel_rfl) IT.out.1 IT.out.2.1 IT.out.2.2.1 IT.out.2.2.2 rfl (by decide) _ _ _ rfl (HO4.out.alloc _) ⟨w4.heap.size, 0, none⟩ 1 1 (stL.f (startS i)) rfl rfl (news7 w4 (startS i) 25) (stL.one (startS i)) ?qc4 ?qc5 ?qc6 ?_)
            case qc4 => rw [startL_len]; unfold maxLen; omega
            case qc5 => rw [startL_len]; omega
            case qc6 => simp; omega
            intro v5 w5 hown hgrow hnil
            have B5 := Lib.hid ((B4.out.alloc B4.out.size (.cells #[.bool (startS i).sy, .int .i64 (startS i).l, .int .i64 (startS i).h, .int .i64 (startS i).a, .int .i64 (startS i).k, .int .i64 (startS i).src, .int .i64 (startS i).he] 25)).grown hgrow (by simp; omega) (fun k hk => (HO4.out.lt k hk).1))
            have H5 := Lib.hid (show w5.ownsRow w2.heap.size 25 7 v5 (startL (i + 1)).length (flatT stL (startL (i + 1))) by
              rw [startL_succ, List.length_append, flatT_append, flatT_one]; exact hown)
            clear hown hgrow hnil
            go_wp2_with fail
            go_roundw
            case rel => exact ⟨i + 1, by omega, by go_num, H5.out, fun j c' hj hc' => by
              rcases Nat.lt_or_ge j i with h | h
              · exact HV.out j c' h hc'
              · obtain rfl : j = i := by omega
                rw [HC.out] at hc'
                obtain rfl := Option.some.inj hc'
                exact HX.out, B5.out⟩
            case measure => simp [intOf]; omega
        · obtain rfl : i = n := by omega
          obtain ⟨A0, hA0⟩ : ∃ a, Int.tmod q 500000000 = a := ⟨_, rfl⟩
          have hA1 : 0 ≤ A0 ∧ A0 < 500000000 := by rw [Int.tmod_eq_emod_of_nonneg q0] at hA0; omega
          obtain ⟨hA1, hA2⟩ := hA1
          go_wp2_with fail
          obtain ⟨gL, capL, rfl, hgL, hgL2⟩ := HOWN.out.form (by rw [startL_len]; exact hn1)
          have hcL : capL ≤ maxLen := by
            obtain ⟨_, ⟨e, _⟩ | ⟨_, _, _, e, _, _, _, h, _⟩⟩ := HOWN.out
            · cases e
            · injection e with _ _ e; rw [e]; exact h
          have hcL1 : (startL i).length ≤ capL := by
            obtain ⟨_, ⟨e, _⟩ | ⟨_, _, _, e, _, _, h, _, _⟩⟩ := HOWN.out
            · cases e
            · injection e with _ _ e; rw [e]; exact h
          have G0 := Lib.hid (show ∀ j s c, (startL i)[j]? = some s → cs[j]? = some c → GdI j s c (A0 * 10000 + 2000) by
            intro j s c hs hc
            have hj : j < i := by have := (List.getElem?_eq_some_iff.1 hc).1; have := CN.out; omega
            rw [startL, List.getElem?_map, List.getElem?_range hj] at hs
            obtain rfl := Option.some.inj hs
            exact gd_start j c (HV.out j c hj hc) (fun e => by subst e; exact C0.out c hc) _)
          have HOWN2 := Lib.hid (show wr.ownsRow w2.heap.size 25 7 (.slice (some ⟨gL, 0, none⟩) i capL) i (flatT stL (startL i)) by have := HOWN.out; rwa [startL_len] at this)
          rw [startL_len] at hcL1
          rw [startL_len]
          unfold maxLen at hcL
          clear HOWN HV hlt hi IT IC
          obtain ⟨oL, hoL⟩ : ∃ o : Nat, 0 = o := ⟨_, rfl⟩
          have HOL := Lib.hid hoL
          have eL : (⟨gL, 0, none⟩ : Addr) = ⟨gL, oL, none⟩ := by rw [← hoL]
          rw [eL] at HOWN2 ⊢
          clear hoL eL
          have HLEN0 := startL_len i
          generalize startL i = ls0 at HOWN2 G0 HLEN0
          have LS0 := Lib.hid HLEN0
          clear HLEN0
          go_loopw [7, 12, 13] (fun up a ii wx => ∃ (k : Nat) (asn : Int) (ls : List Stt), k ≤ hs.length ∧ up = .bool true ∧ a = .int .i64 asn ∧ ii = .int .i64 k ∧ 0 ≤ asn ∧ asn ≤ 500000000 + 2000 * k ∧ ls.length = i ∧ (∀ j s c, ls[j]? = some s → cs[j]? = some c → GdI j s c (asn * 10000 + 2000)) ∧ wx.ownsRow w2.heap.size 25 7 (.slice (some ⟨gL, oL, none⟩) i capL) i (flatT stL ls) ∧ Below w2.heap.size w2 wx) (fun _ _ k _ => hs.length - (intOf k).toNat)
          case atStart => exact ⟨0, A0, ls0, by omega, rfl, rfl, rfl, hA1, by omega, LS0.out, G0.out, HOWN2.out, BE.out⟩
          case round =>
            clear hA0 hA1 hA2 hgL2 hwz
            clear BE G0 HOWN2 LS0
            obtain ⟨k, asn, ls, hk, rfl, rfl, rfl, ha0, ha1, hlen, hg, hown, bel⟩ := hrel
            have HLEN := Lib.hid (hlen.trans CN.out.symm)
            have HL := Lib.hid hlen
            have HG := Lib.hid hg
            have HOWN := Lib.hid hown
            have BE := Lib.hid bel
            have hwz := bel.size
            have hw0 := B2.out.size
            clear hlen hg hown bel
            by_cases hlt : k < hs.length
            · obtain ⟨hp, bH, oH, hhp, e1, hbH, _, d0, d1, d2⟩ := SH.out.at3 (B2.out.trans (BE.out.mono B2.out.size)) hlt
              cases e1
              obtain ⟨x1, x2, x3, x4, x5, x6⟩ := HR.out hp (List.mem_of_getElem? hhp)
              clear hhp
              have k0 : (0 : Int) ≤ (k : Int) := Int.natCast_nonneg _
              have k1 : (k : Int) < (hs.length : Int) := by omega
              have i0' : (0 : Int) < (i : Int) := by omega
              obtain ⟨M, hM⟩ : ∃ a, Int.tmod hp.w 2000 = a := ⟨_, rfl⟩
              have hM1 : 0 ≤ M ∧ M < 2000 := by rw [Int.tmod_eq_emod_of_nonneg x5] at hM; omega
              obtain ⟨hM1, hM2⟩ := hM1
              obtain ⟨f, hf, hf1⟩ : ∃ f : Nat, Int.tmod hp.f (i : Int) = (f : Int) ∧ f < i := ⟨(Int.tmod hp.f i).toNat, by
                rw [Int.tmod_eq_emod_of_nonneg x1]
                have := Int.emod_nonneg hp.f (b := (i : Int)) (by omega)
                have := Int.emod_lt_of_pos hp.f (b := (i : Int)) (by omega)
                omega⟩
              obtain ⟨g, hgt, hg1⟩ : ∃ g : Nat, Int.tmod hp.t (i : Int) = (g : Int) ∧ g < i := ⟨(Int.tmod hp.t i).toNat, by
                rw [Int.tmod_eq_emod_of_nonneg x3]
                have := Int.emod_nonneg hp.t (b := (i : Int)) (by omega)
                have := Int.emod_lt_of_pos hp.t (b := (i : Int)) (by omega)
                omega⟩
              obtain ⟨G, hG⟩ : ∃ G, asn + (1 + M) = G := ⟨_, rfl⟩
              have G0 : 1 ≤ G := by omega
              have G1 : G ≤ 500200000 := by omega
              have G2 : G ≤ 500000000 + 2000 * ((k : Int) + 1) := by omega
              have GT : asn * 10000 + 2000 ≤ G * 10000 := by omega
              have SLS := Lib.hid (show SlT stL wr (.slice (some ⟨gL, oL, none⟩) i capL) ls by
                have e : oL = 0 := HOL.out.symm
                have e2 := HL.out
                have h := HOWN.out
                subst e
                subst e2
                exact slt_of_own (L := stL) h)
              go_wp2_with fail
              refine (catch_any (.slice (some ⟨gL, oL, none⟩) i capL) (.slice (some ⟨gA, oA, none⟩) i capA) ls cs G (asn * 10000 + 2000) wr SLS.out (SC.out.below BE.out) HLEN.out HG.out (by omega)).mono ?_
              rintro e w3 ⟨rfl, hb⟩
              have HO3 := Lib.hid (ownsRow_belowW HOWN.out hb)
              have B3 := Lib.hid (BE.out.trans (hb.mono hwz))
              have SL3 := Lib.hid (SLS.out.below hb)
              have hw3 := B3.out.size
              clear hb d0 d1 d2 hbH hwz HOWN SLS BE hM hf hgt hG
              obtain ⟨s, bS, oS, hss, e1, zS, _, d0, d1, d2, d3, d4, d5, d6⟩ := SL3.out.at7 (Below.refl _ _) (i := f) (by rw [HL.out]; exact hf1)
              cases e1
              obtain ⟨c, bC, oC, hcc, e1, zC, _, dc0, dc1⟩ := SC.out.at2 B3.out (i := f) (by rw [CN.out]; exact hf1)
              cases e1
              have GI := Lib.hid (HG.out f s c hss hcc)
              have f0 : (0 : Int) ≤ (f : Int) := Int.natCast_nonneg _
              have f1 : (f : Int) < (i : Int) := by omega
              have g0 : (0 : Int) ≤ (g : Int) := Int.natCast_nonneg _
              have g4 : (g : Int) < (i : Int) := by omega
              obtain ⟨N, hN⟩ : ∃ N, gsN s.sy s.l s.h s.a s.k s.src s.he c.o c.d G = N := ⟨_, rfl⟩
              obtain ⟨b, hbb⟩ : ∃ b, tlB s c ((f : Int) == 0) G = b := ⟨_, rfl⟩
              obtain ⟨ok, hok⟩ : ∃ ok, tlOk s c ((f : Int) == 0) G = ok := ⟨_, rfl⟩
              have HT := Lib.hid (And.intro hN (And.intro hbb hok))
              have HS := Lib.hid hss
              clear hN hbb hok hss hcc
              go_wp2_with fail
              have pd0 := fun x : Past w3 => past_cell x d0 zS; have pd1 := fun x : Past w3 => past_cell x d1 zS; have pd2 := fun x : Past w3 => past_cell x d2 zS; have pd3 := fun x : Past w3 => past_cell x d3 zS; have pd4 := fun x : Past w3 => past_cell x d4 zS; have pd5 := fun x : Past w3 => past_cell x d5 zS; have pd6 := fun x : Past w3 => past_cell x d6 zS; have pc0 := fun x : Past w3 => past_cell x dc0 zC; have pc1 := fun x : Past w3 => past_cell x dc1 zC
              refine wp_region_past (by kernel_rfl) (by kernel_rfl) ?_
              repeat (go_big_quiet_step ((first | (go_at_call 11; exact calls_past (tells_lit s c ((f : Int) == 0) G N b ok _ (by omega) (by omega) HT.out)))))
              refine wpQuiet_nil ?_
              rintro _ ⟨x, rfl⟩
              have HO4 := Lib.hid (show (past w3 x).ownsRow w2.heap.size 25 7 (.slice (some ⟨gL, oL, none⟩) i capL) i (flatT stL ls) from ownsRow_belowW HO3.out x.h)
              have B4 := Lib.hid (show Below w2.heap.size w2 (past w3 x) from B3.out.trans (x.h.mono hw3))
              have SL4 := Lib.hid (show SlT stL (past w3 x) (.slice (some ⟨gL, oL, none⟩) i capL) ls from SL3.out.below x.h)
              clear pd0 pd1 pd2 pd3 pd4 pd5 pd6 pc0 pc1 d0 d1 d2 d3 d4 d5 d6 dc0 dc1 zS zC HO3 B3 SL3 hw3
              generalize past w3 x = w4 at HO4 B4 SL4 ⊢
              have hw4 := B4.out.size
              cases ok with
              | false =>
                go_wp2_with fail
                go_roundw
                case rel => exact ⟨k + 1, G, ls, by omega, rfl, rfl, by go_num, by omega, by omega, HL.out, fun j s c h1 h2 => (HG.out j s c h1 h2).mono (by omega), HO4.out, B4.out⟩
                case measure => simp [intOf]; omega
              | true =>
              by_cases hfg : f = g
              · have hfg1 : ((f : Int) == (g : Int)) = true := by simp [hfg]
                clear hfg
                go_wp2_with fail
                go_roundw
                case rel => exact ⟨k + 1, G, ls, by omega, rfl, rfl, by go_num, by omega, by omega, HL.out, fun j s c h1 h2 => (HG.out j s c h1 h2).mono (by omega), HO4.out, B4.out⟩
                case measure => simp [intOf]; omega
              have hfg1 : ((f : Int) == (g : Int)) = false := beq_eq_false_iff_ne.2 (by omega)
              obtain ⟨t1, t2, t3, t4, t5, t6⟩ := tl_true GI.out GT (by omega) (by omega) (nat_beq0 f) HT.out.1 HT.out.2.1 HT.out.2.2
              obtain ⟨u, bU, oU, huu, e1, zU, _, d0, d1, d2, d3, d4, d5, d6⟩ := SL4.out.at7 (Below.refl _ _) (i := g) (by rw [HL.out]; exact hg1)
              cases e1
              obtain ⟨e, bE, oE, hee, e1, zE, _, dc0, dc1⟩ := SC.out.at2 B4.out (i := g) (by rw [CN.out]; exact hg1)
              cases e1
              have GU := Lib.hid (HG.out g u e huu hee)
              obtain ⟨T, hT⟩ : ∃ T, G * 10000 + N = T := ⟨_, rfl⟩
              have KEY := Lib.hid (gd_hear (N := N) (f := (f : Int)) (p := s.k) (b := b) GU.out (by omega) G0 (by omega) ⟨f0, by omega⟩ ⟨t5, t6⟩ t3 t4 t1 t2)
              rw [hT] at KEY
              obtain ⟨LO, hLO⟩ : ∃ LO, atI e.o e.d T = LO := ⟨_, rfl⟩
              have HLB := Lib.hid (show -30000000000000 ≤ LO ∧ LO ≤ 30000000000000 by
                obtain ⟨v1, v2, v3, v4⟩ := vld_out GU.out.1
                have hb := at_bd (o := e.o) (d := e.d) v1 v2 v3 v4 (show -1 ≤ T by omega) (by omega)
                rw [hLO] at hb
                omega)
              rw [hLO] at KEY
              have HSH := Lib.hid (show shN e.o e.d T = LO ∧ shE e.o e.d T = 0 by
                have h := sh_yes KEY.out.1
                exact ⟨by rw [h.2]; exact hLO, h.1⟩)
              have HU := Lib.hid huu
              have HE := Lib.hid hee
              clear huu hee hLO
              go_wp2_with fail
              refine (show_lit e.o e.d T LO 0 _ HSH.out).mono ?_
              rintro e9 w5 ⟨rfl, hb⟩
              have HO5 := Lib.hid (ownsRow_belowW HO4.out hb)
              have B5 := Lib.hid (B4.out.trans (hb.mono hw4))
              have SL5 := Lib.hid (SL4.out.below hb)
              have hw5 := B5.out.size
              clear hb d0 d1 d2 d3 d4 d5 d6 dc0 dc1 zU zE HO4 B4 SL4 hw4
              obtain ⟨x', hx'⟩ : ∃ x', nxtS u (f : Int) s.k b G LO = x' := ⟨_, rfl⟩
              have HH := Lib.hid (And.intro KEY.out.2.1 hx')
              clear hx'
              obtain ⟨u', bU, oU, huu, e1, zU, _, d0, d1, d2, d3, d4, d5, d6⟩ := SL5.out.at7 (Below.refl _ _) (i := g) (by rw [HL.out]; exact hg1)
              cases e1
              obtain rfl : u = u' := by rw [HU.out] at huu; exact Option.some.inj huu
              obtain ⟨s', bU, oU, hss, e1, _, _, q0', q1', q2', q3', q4', q5', q6'⟩ := SL5.out.at7 (Below.refl _ _) (i := f) (by rw [HL.out]; exact hf1)
              cases e1
              obtain rfl : s = s' := by rw [HS.out] at hss; exact Option.some.inj hss
              clear huu hss q0' q1' q2' q3' q5' q6'
              go_wp2_with fail
              have QC := Lib.hid (And.intro d0 (And.intro d1 (And.intro d2 (And.intro d3 (And.intro d4 (And.intro d5 (And.intro d6 q4')))))))
              have HZ := Lib.hid zU
              have BD := Lib.hid (Below.refl w5.heap.size w5).drew
              clear d0 d1 d2 d3 d4 d5 d6 q4' zU
              go_cut [23, 24] (fun s1 s2 wx => ∃ bN, s1 = .pointer (some ⟨bN, 0, none⟩) ∧ s2 = .int .i64 0 ∧ w5.heap.size ≤ bN ∧ Own wx bN [.bool x'.sy, .int .i64 x'.l, .int .i64 x'.h, .int .i64 x'.a, .int .i64 x'.k, .int .i64 x'.src, .int .i64 x'.he] 25 ∧ Below w5.heap.size w5 wx)
              case first =>
                have zd : gL < w5.drew.heap.size := HZ.out
                have zd0 : gL < w5.heap.size := HZ.out
                have d0 : World.cell? w5.drew ⟨gL, oL + g * 7, none⟩ = some (.bool u.sy) := QC.out.1; have f0 : World.cell? w5 ⟨gL, oL + g * 7, none⟩ = some (.bool u.sy) := QC.out.1; have d1 : World.cell? w5.drew ⟨gL, oL + g * 7 + 1, none⟩ = some (.int .i64 u.l) := QC.out.2.1; have f1 : World.cell? w5 ⟨gL, oL + g * 7 + 1, none⟩ = some (.int .i64 u.l) := QC.out.2.1; have d2 : World.cell? w5.drew ⟨gL, oL + g * 7 + 2, none⟩ = some (.int .i64 u.h) := QC.out.2.2.1; have f2 : World.cell? w5 ⟨gL, oL + g * 7 + 2, none⟩ = some (.int .i64 u.h) := QC.out.2.2.1; have d3 : World.cell? w5.drew ⟨gL, oL + g * 7 + 3, none⟩ = some (.int .i64 u.a) := QC.out.2.2.2.1; have f3 : World.cell? w5 ⟨gL, oL + g * 7 + 3, none⟩ = some (.int .i64 u.a) := QC.out.2.2.2.1; have d4 : World.cell? w5.drew ⟨gL, oL + g * 7 + 4, none⟩ = some (.int .i64 u.k) := QC.out.2.2.2.2.1; have f4 : World.cell? w5 ⟨gL, oL + g * 7 + 4, none⟩ = some (.int .i64 u.k) := QC.out.2.2.2.2.1; have d5 : World.cell? w5.drew ⟨gL, oL + g * 7 + 5, none⟩ = some (.int .i64 u.src) := QC.out.2.2.2.2.2.1; have f5 : World.cell? w5 ⟨gL, oL + g * 7 + 5, none⟩ = some (.int .i64 u.src) := QC.out.2.2.2.2.2.1; have d6 : World.cell? w5.drew ⟨gL, oL + g * 7 + 6, none⟩ = some (.int .i64 u.he) := QC.out.2.2.2.2.2.2.1; have f6 : World.cell? w5 ⟨gL, oL + g * 7 + 6, none⟩ = some (.int .i64 u.he) := QC.out.2.2.2.2.2.2.1; have d7 : World.cell? w5.drew ⟨gL, oL + f * 7 + 4, none⟩ = some (.int .i64 s.k) := QC.out.2.2.2.2.2.2.2; have f7 : World.cell? w5 ⟨gL, oL + f * 7 + 4, none⟩ = some (.int .i64 s.k) := QC.out.2.2.2.2.2.2.2
                go_region_held3 (fun w' => w'.cell? ⟨gL, oL + g * 7, none⟩ = some (.bool u.sy) ∧ w'.cell? ⟨gL, oL + g * 7 + 1, none⟩ = some (.int .i64 u.l) ∧ w'.cell? ⟨gL, oL + g * 7 + 2, none⟩ = some (.int .i64 u.h) ∧ w'.cell? ⟨gL, oL + g * 7 + 3, none⟩ = some (.int .i64 u.a) ∧ w'.cell? ⟨gL, oL + g * 7 + 4, none⟩ = some (.int .i64 u.k) ∧ w'.cell? ⟨gL, oL + g * 7 + 5, none⟩ = some (.int .i64 u.src) ∧ w'.cell? ⟨gL, oL + g * 7 + 6, none⟩ = some (.int .i64 u.he) ∧ w'.cell? ⟨gL, oL + f * 7 + 4, none⟩ = some (.int .i64 s.k) ∧ gL < w'.heap.size)
                  (((try dsimp only); (repeat' apply And.intro) <;> first | (with_reducible assumption) | (rw [cell_setCellsC (by with_reducible assumption)]; with_reducible assumption) | (rw [size_setCellsC]; with_reducible assumption) | (rw [cell_newT (by with_reducible assumption)]; with_reducible assumption) | (rw [cell_drewC, cell_newT (by with_reducible assumption)]; with_reducible assumption) | (rw [cell_drewC]; with_reducible assumption) | exact size_newT (by with_reducible assumption) | ((repeat rw [cell_setT (by with_reducible assumption)]); first | (with_reducible assumption) | (rw [cell_newT (by with_reducible assumption)]; with_reducible assumption)) | (simp; omega)))
                  (first | (go_at_call 13; refine (hearS u x' (f : Int) s.k b G LO 0 _ HH.out).mono ?_; rintro e8 w9 ⟨rfl, hb9⟩; have B9 := Lib.hid (by first | exact belowTo BD.out hb9 BD.out.size | exact belowTo (belowNew _ _).drew hb9 (belowNew _ _).size : Below w5.heap.size w5 w9); have g0 : World.cell? w9 ⟨gL, oL + g * 7, none⟩ = some (.bool u.sy) := (B9.out.cell (p := ⟨gL, oL + g * 7, none⟩) HZ.out).trans QC.out.1; have g1 : World.cell? w9 ⟨gL, oL + g * 7 + 1, none⟩ = some (.int .i64 u.l) := (B9.out.cell (p := ⟨gL, oL + g * 7 + 1, none⟩) HZ.out).trans QC.out.2.1; have g2 : World.cell? w9 ⟨gL, oL + g * 7 + 2, none⟩ = some (.int .i64 u.h) := (B9.out.cell (p := ⟨gL, oL + g * 7 + 2, none⟩) HZ.out).trans QC.out.2.2.1; have g3 : World.cell? w9 ⟨gL, oL + g * 7 + 3, none⟩ = some (.int .i64 u.a) := (B9.out.cell (p := ⟨gL, oL + g * 7 + 3, none⟩) HZ.out).trans QC.out.2.2.2.1; have g4 : World.cell? w9 ⟨gL, oL + g * 7 + 4, none⟩ = some (.int .i64 u.k) := (B9.out.cell (p := ⟨gL, oL + g * 7 + 4, none⟩) HZ.out).trans QC.out.2.2.2.2.1; have g5 : World.cell? w9 ⟨gL, oL + g * 7 + 5, none⟩ = some (.int .i64 u.src) := (B9.out.cell (p := ⟨gL, oL + g * 7 + 5, none⟩) HZ.out).trans QC.out.2.2.2.2.2.1; have g6 : World.cell? w9 ⟨gL, oL + g * 7 + 6, none⟩ = some (.int .i64 u.he) := (B9.out.cell (p := ⟨gL, oL + g * 7 + 6, none⟩) HZ.out).trans QC.out.2.2.2.2.2.2.1; have g7 : World.cell? w9 ⟨gL, oL + f * 7 + 4, none⟩ = some (.int .i64 s.k) := (B9.out.cell (p := ⟨gL, oL + f * 7 + 4, none⟩) HZ.out).trans QC.out.2.2.2.2.2.2.2; have y3 : gL < w9.heap.size := Nat.lt_of_lt_of_le HZ.out B9.out.size; (try (have hN9 := own_lastT hb9; have ON9 := Lib.hid hN9; have RE9 := Lib.hid (store_ownC hN9 #[.bool x'.sy, .int .i64 x'.l, .int .i64 x'.h, .int .i64 x'.a, .int .i64 x'.k, .int .i64 x'.src, .int .i64 x'.he] rfl info_tsC (by simp [Value.oneCell'])); clear hN9)); clear hb9) | (refine upon_then (w' := w9.setCells w5.heap.size 0 [.bool x'.sy, .int .i64 x'.l, .int .i64 x'.h, .int .i64 x'.a, .int .i64 x'.k, .int .i64 x'.src, .int .i64 x'.he]) (by have RE := RE9.out; simp [go_sem] at RE; exact RE) ?_; go_simp) | fail)
                all_goals (go_wp2_with fail; go_meet)
                all_goals (first | exact ⟨_, rfl, rfl, Nat.le_refl _, own_whole ON9.out rfl, below_setCells _ (Nat.le_refl _) _ _ _ B9.out⟩ | exact ⟨_, rfl, rfl, B9.out.size, own_at _ _ rfl, B9.out.alloc B9.out.size _⟩)
              case rest =>
                obtain ⟨bN, rfl, rfl, hbN, oN, hx⟩ := hcut
                have HO6 := Lib.hid (ownsRow_belowW HO5.out hx)
                have B6 := Lib.hid (B5.out.trans (hx.mono hw5))
                have SL6 := Lib.hid (SL5.out.below hx)
                clear hx HO5 SL5 QC BD
                generalize wc = w6 at HO6 B6 SL6 oN ⊢
                have hw6 := B6.out.size
                obtain ⟨cN0, cN1, cN2, cN3, cN4, cN5, cN6, fN, zN⟩ := own7 oN
                go_wp2_with fail
                obtain ⟨u', bU, oU, huu, e1, zU, _, d0, d1, d2, d3, d4, d5, d6⟩ := SL6.out.at7 (Below.refl _ _) (i := g) (by rw [HL.out]; exact hg1)
                cases e1
                obtain rfl : u = u' := by rw [HU.out] at huu; exact Option.some.inj huu
                obtain ⟨s', bU, oU, hss, e1, _, _, q0', q1', q2', q3', q4', q5', q6'⟩ := SL6.out.at7 (Below.refl _ _) (i := f) (by rw [HL.out]; exact hf1)
                cases e1
                obtain rfl : s = s' := by rw [HS.out] at hss; exact Option.some.inj hss
                clear huu hss q0' q1' q2' q3' q5' q6'
                have wk : IntKind.i64.wrap (s.k + 1) = s.k + 1 := IntWalk.i64_in _ (by omega)
                obtain ⟨lb0, lb1⟩ := HLB.out
                have Way : tsB x'.sy x'.l x'.h x'.a x'.k x'.src x'.he u.sy u.l u.h u.a u.k u.src u.he = true ∨ (tsB x'.sy x'.l x'.h x'.a x'.k x'.src x'.he u.sy u.l u.h u.a u.k u.src u.he = false ∧ x'.sy = true ∧ truB x'.l x'.h x'.a T LO = true ∧ x'.k = s.k + 1) := by
                  cases hC : hrC u.sy u.l u.h u.a u.k u.src u.he (f : Int) s.k b G LO with
                  | false =>
                    have e := HH.out.2
                    rw [nxtS, if_neg (by rw [hC]; simp)] at e
                    rw [← e]; exact .inl (tsB_self _ _ _ _ _ _ _)
                  | true =>
                    have e := HH.out.2
                    rw [nxtS, if_pos hC] at e
                    have tr := KEY.out.2.2.1 hC
                    cases h : tsB x'.sy x'.l x'.h x'.a x'.k x'.src x'.he u.sy u.l u.h u.a u.k u.src u.he with
                    | true => exact .inl rfl
                    | false => exact .inr ⟨rfl, by rw [← e], by rw [← e]; exact tr, by rw [← e]⟩
                rcases Way with r | ⟨r, y1, y2, y3⟩
                · have eq := eq_ts_lit x'.sy x'.l x'.h x'.a x'.k x'.src x'.he u.sy u.l u.h u.a u.k u.src u.he r
                  clear r
                  have pd0 := fun x : Past w6 => past_cell x d0 zU; have pd1 := fun x : Past w6 => past_cell x d1 zU; have pd2 := fun x : Past w6 => past_cell x d2 zU; have pd3 := fun x : Past w6 => past_cell x d3 zU; have pd4 := fun x : Past w6 => past_cell x d4 zU; have pd5 := fun x : Past w6 => past_cell x d5 zU; have pd6 := fun x : Past w6 => past_cell x d6 zU; have pq := fun x : Past w6 => past_cell x q4' zU; have pN0 := fun x : Past w6 => (oN.past x).cell (i := 0) rfl; have pN1 := fun x : Past w6 => (oN.past x).cell (i := 1) rfl; have pN2 := fun x : Past w6 => (oN.past x).cell (i := 2) rfl; have pN3 := fun x : Past w6 => (oN.past x).cell (i := 3) rfl; have pN4 := fun x : Past w6 => (oN.past x).cell (i := 4) rfl; have pN5 := fun x : Past w6 => (oN.past x).cell (i := 5) rfl; have pN6 := fun x : Past w6 => (oN.past x).cell (i := 6) rfl
                  refine wp_region_past (by kernel_rfl) (by kernel_rfl) ?_
                  repeat (go_big_quiet_step (fail))
                  refine wpQuiet_nil ?_
                  rintro _ ⟨x, rfl⟩
                  have HO7 := Lib.hid (show (past w6 x).ownsRow w2.heap.size 25 7 (.slice (some ⟨gL, oL, none⟩) i capL) i (flatT stL ls) from ownsRow_belowW HO6.out x.h)
                  have B7 := Lib.hid (show Below w2.heap.size w2 (past w6 x) from B6.out.trans (x.h.mono hw6))
                  have oN7 := oN.past x
                  clear pd0 pd1 pd2 pd3 pd4 pd5 pd6 pq pN0 pN1 pN2 pN3 pN4 pN5 pN6 cN0 cN1 cN2 cN3 cN4 cN5 cN6 fN zN d0 d1 d2 d3 d4 d5 d6 q4' zU eq HO6 B6 SL6 hw6 oN 
                  generalize past w6 x = w7 at HO7 B7 oN7 ⊢
                  have hw7 := B7.out.size
                  obtain ⟨cN0, cN1, cN2, cN3, cN4, cN5, cN6, fN, zN⟩ := own7 oN7
                  obtain ⟨z, hz⟩ : ∃ z, tckS x' LO = z := ⟨_, rfl⟩
                  have HZ2 := Lib.hid hz
                  clear hz
                  go_wp2_with fail
                  refine (tickS x' z LO _ HZ2.out).mono ?_
                  rintro e8 w8 ⟨rfl, hb⟩
                  have HO8 := Lib.hid (ownsRow_belowW HO7.out hb)
                  have B8 := Lib.hid (B7.out.trans (hb.mono hw7))
                  have hw8 := B8.out.size
                  have TH := Lib.hid (show w8.there gL (oL + g * 7) 7 by
                    have e : oL = 0 := HOL.out.symm
                    have h := HO8.out
                    subst e
                    exact ownT_there (L := stL) h (by rw [HL.out]; exact hg1))
                  clear hb cN0 cN1 cN2 cN3 cN4 cN5 cN6 fN zN oN7 HO7 B7 hw7
                  go_wp2_with (first | ((with_reducible refine storeS z gL (oL + g * 7) ?_ ?_ TH.out ?_); (next => rfl); (next => exact ⟨_, _, rfl, rfl, rfl⟩)) | fail)
                  go_roundw
                  case rel => exact ⟨k + 1, G, ls.set g z, by omega, rfl, rfl, by go_num, by omega, by omega, by rw [List.length_set]; exact HL.out, fun j s c h1 h2 => by
                    rcases Nat.decEq g j with hj | hj
                    · rw [List.getElem?_set_ne hj] at h1
                      exact (HG.out j s c h1 h2).mono (by omega)
                    · subst hj
                      rw [List.getElem?_set_self (by rw [HL.out]; exact hg1)] at h1
                      rw [HE.out] at h2
                      obtain rfl := Option.some.inj h1
                      obtain rfl := Option.some.inj h2
                      have kk := KEY.out.2.2.2
                      rw [HH.out.2, HZ2.out] at kk
                      exact kk.mono (by omega), by
                    have e : oL = 0 := HOL.out.symm
                    have h := HO8.out
                    subst e
                    exact ownT_set (L := stL) z h (by rw [HL.out]; exact hg1), below_setCells gL hgL _ _ _ B8.out⟩
                  case measure => simp [intOf]; omega
                · have eq := eq_ts_lit x'.sy x'.l x'.h x'.a x'.k x'.src x'.he u.sy u.l u.h u.a u.k u.src u.he r
                  rw [y1] at eq
                  have y4 : (x'.k == s.k + 1) = true := by simp [y3]
                  have Y2 := Lib.hid y2
                  clear r y2 y3
                  have pd0 := fun x : Past w6 => past_cell x d0 zU; have pd1 := fun x : Past w6 => past_cell x d1 zU; have pd2 := fun x : Past w6 => past_cell x d2 zU; have pd3 := fun x : Past w6 => past_cell x d3 zU; have pd4 := fun x : Past w6 => past_cell x d4 zU; have pd5 := fun x : Past w6 => past_cell x d5 zU; have pd6 := fun x : Past w6 => past_cell x d6 zU; have pq := fun x : Past w6 => past_cell x q4' zU; have pN0 := fun x : Past w6 => (oN.past x).cell (i := 0) rfl; have pN1 := fun x : Past w6 => (oN.past x).cell (i := 1) rfl; have pN2 := fun x : Past w6 => (oN.past x).cell (i := 2) rfl; have pN3 := fun x : Past w6 => (oN.past x).cell (i := 3) rfl; have pN4 := fun x : Past w6 => (oN.past x).cell (i := 4) rfl; have pN5 := fun x : Past w6 => (oN.past x).cell (i := 5) rfl; have pN6 := fun x : Past w6 => (oN.past x).cell (i := 6) rfl
                  refine wp_region_past (by kernel_rfl) (by kernel_rfl) ?_
                  repeat (go_big_quiet_step ((first | (go_at_call 14; exact calls_past (true_lit x'.l x'.h x'.a T LO true _ (by omega) (by omega) (by omega) (by omega) Y2.out)))))
                  refine wpQuiet_nil ?_
                  rintro _ ⟨x, rfl⟩
                  have HO7 := Lib.hid (show (past w6 x).ownsRow w2.heap.size 25 7 (.slice (some ⟨gL, oL, none⟩) i capL) i (flatT stL ls) from ownsRow_belowW HO6.out x.h)
                  have B7 := Lib.hid (show Below w2.heap.size w2 (past w6 x) from B6.out.trans (x.h.mono hw6))
                  have oN7 := oN.past x
                  clear pd0 pd1 pd2 pd3 pd4 pd5 pd6 pq pN0 pN1 pN2 pN3 pN4 pN5 pN6 cN0 cN1 cN2 cN3 cN4 cN5 cN6 fN zN d0 d1 d2 d3 d4 d5 d6 q4' zU eq HO6 B6 SL6 hw6 oN y1 y4 Y2
                  generalize past w6 x = w7 at HO7 B7 oN7 ⊢
                  have hw7 := B7.out.size
                  obtain ⟨cN0, cN1, cN2, cN3, cN4, cN5, cN6, fN, zN⟩ := own7 oN7
                  obtain ⟨z, hz⟩ : ∃ z, tckS x' LO = z := ⟨_, rfl⟩
                  have HZ2 := Lib.hid hz
                  clear hz
                  go_wp2_with fail
                  refine (tickS x' z LO _ HZ2.out).mono ?_
                  rintro e8 w8 ⟨rfl, hb⟩
                  have HO8 := Lib.hid (ownsRow_belowW HO7.out hb)
                  have B8 := Lib.hid (B7.out.trans (hb.mono hw7))
                  have hw8 := B8.out.size
                  have TH := Lib.hid (show w8.there gL (oL + g * 7) 7 by
                    have e : oL = 0 := HOL.out.symm
                    have h := HO8.out
                    subst e
                    exact ownT_there (L := stL) h (by rw [HL.out]; exact hg1))
                  clear hb cN0 cN1 cN2 cN3 cN4 cN5 cN6 fN zN oN7 HO7 B7 hw7
                  go_wp2_with (first | ((with_reducible refine storeS z gL (oL + g * 7) ?_ ?_ TH.out ?_); (next => rfl); (next => exact ⟨_, _, rfl, rfl, rfl⟩)) | fail)
                  go_roundw
                  case rel => exact ⟨k + 1, G, ls.set g z, by omega, rfl, rfl, by go_num, by omega, by omega, by rw [List.length_set]; exact HL.out, fun j s c h1 h2 => by
                    rcases Nat.decEq g j with hj | hj
                    · rw [List.getElem?_set_ne hj] at h1
                      exact (HG.out j s c h1 h2).mono (by omega)
                    · subst hj
                      rw [List.getElem?_set_self (by rw [HL.out]; exact hg1)] at h1
                      rw [HE.out] at h2
                      obtain rfl := Option.some.inj h1
                      obtain rfl := Option.some.inj h2
                      have kk := KEY.out.2.2.2
                      rw [HH.out.2, HZ2.out] at kk
                      exact kk.mono (by omega), by
                    have e : oL = 0 := HOL.out.symm
                    have h := HO8.out
                    subst e
                    exact ownT_set (L := stL) z h (by rw [HL.out]; exact hg1), below_setCells gL hgL _ _ _ B8.out⟩
                  case measure => simp [intOf]; omega
            · go_wp2_with fail
              go_ret
              exact ⟨rfl, B2.out.trans (BE.out.mono B2.out.size)⟩

end Go.Proofs.Ythnilgmafbkdkaa
