/- What Clashes returns; that r7Cells returns true. No condition but those named. -/
import Derived.Test.YtmopiifamopidaaGreatPL
import Derived.Test.YtmopiifamopidaaGreatPK
import Derived.Outline
import Derived.Test.YtmopiifamopidaaGreatPO
import Derived.BigQuiet
set_option linter.unusedVariables false
set_option linter.unusedSimpArgs false
section
namespace Go.Proofs.YtmopiifamopidaaGreat
open Go.RowKit
theorem sen_look {w : World} {ops : Array Oper} {rest : List Oper} {p : Oper} {a : Act} {Q : Exit → Act → World → Prop} (B b n : Nat) (G : Int × Int → Option Nat) (L : List ((Int × Int) × Int)) (s o : Int) (x : Option Nat) (hw : Region.wanted p (yielded ops a.tmps) = true)
  (hs : ∃ m k : Operand, p.op = Op.lookup 74 m k false ∧ a.eval m = .map (some b) ∧ a.eval k = .agg #[.int .i64 s, .int .i64 o]) (h : SenM w B b n G L) (hk : smalC s o) (hx : G (s, o) = x) (hK : wpList Tryz.prog ops Q rest (a.put p.dst (.map x)) w) : wpList Tryz.prog ops Q (p :: rest) a w := by
 obtain ⟨m, k, ho, hm, hx2⟩ := hs
 refine BigFrame.wpList_want hw fun K' hK' => ?_
 have hrun := h.look hk
 rw [hx] at hrun
 unfold Oper.wp
 simp [execOp, ho, hm, hx2, hrun, Result.andThen]
 exact hK' _ _ hK
theorem set_look {w : World} {ops : Array Oper} {rest : List Oper} {p : Oper} {a : Act} {Q : Exit → Act → World → Prop} (B b n : Nat) (G : Int × Int → Option Nat) (L : List ((Int × Int) × Int)) (s o i : Int) (x : Option Nat) (y : Bool) (hw : Region.wanted p (yielded ops a.tmps) = true)
  (hs : ∃ m k : Operand, p.op = Op.lookup 75 m k false ∧ a.eval m = .map x ∧ a.eval k = .int .i64 i) (h : SenM w B b n G L) (hk : smalC s o) (hi : -1000000 ≤ i ∧ i ≤ 1000000) (hx : G (s, o) = x) (hy : (atC L s o).contains i = y) (hK : wpList Tryz.prog ops Q rest (a.put p.dst (.bool y)) w) : wpList Tryz.prog ops Q (p :: rest) a w := by
 obtain ⟨m, k, ho, hm, hx2⟩ := hs
 refine BigFrame.wpList_want hw fun K' hK' => ?_
 have hrun := h.asks hk hi
 rw [hx, hy] at hrun
 unfold Oper.wp
 simp [execOp, ho, hm, hx2, hrun, Result.andThen]
 exact hK' _ _ hK
def CI1 (w : World) (L : List ((Int × Int) × Int)) (m : Nat) (wz : World) : Prop := ∃ k G, k ≤ m ∧ SenM wz w.heap.size w.heap.size k G L ∧ Below w.heap.size w wz
def CI2 (w : World) (k : Nat) (G : Int × Int → Option Nat) (M : List ((Int × Int) × Int)) (qs : List Cl5) (out : Value) (wz : World) : Prop := SenM wz w.heap.size w.heap.size k G M ∧ wz.ownsRow w.heap.size 54 5 out qs.length (flatT c5L qs) ∧ Below w.heap.size w wz
theorem clH_len {M : List ((Int × Int) × Int)} {l : Int} {g : Gr} {h : List Bool} : ∀ c, (clH M l g h c).length ≤ c
 | 0 => Nat.le_refl _
 | c + 1 => by
  rw [clH, List.length_append]
  have := clH_len (M := M) (l := l) (g := g) (h := h) c
  cases h[c]? with
  | none => simp; omega
  | some is =>
   dsimp only
   split <;> simp <;> omega
theorem clG_len {M : List ((Int × Int) × Int)} {f l : Int} {h : List Bool} (hh : h.length ≤ 60) : ∀ gs : List Gr, (clG M f l h gs).length ≤ gs.length * 60
 | [] => by simp [clG]
 | g :: gs => by
  have h1 := clG_len (M := M) (f := f) (l := l) hh gs
  have h2 := clH_len (M := M) (l := l) (g := g) (h := h) h.length
  unfold clG at h1 ⊢
  rw [List.flatMap_cons, List.length_append, List.length_cons]
  split
  ·rw [List.length_nil]; omega
  ·omega
theorem clN_len {M : List ((Int × Int) × Int)} {f : Int} {hs : List (List Bool)} {ts : List Tb} (hh : ∀ h ∈ hs, h.length ≤ 60) (ht : ∀ t ∈ ts, t.gs.length ≤ 70) : ∀ l, (clN M f hs ts l).length ≤ l * 4200
 | 0 => Nat.le_refl _
 | l + 1 => by
  have h1 := clN_len (M := M) (f := f) hh ht l
  rw [clN, List.length_append]
  refine Nat.le_trans (Nat.add_le_add h1 (?_ : _ ≤ 4200)) (by omega)
  split
  ·rename_i t h e1 e2
   have h2 := clG_len (M := M) (f := f) (l := l) (hh h (mem_of_at e2)) t.gs
   have h3 := ht t (mem_of_at e1)
   omega
  ·exact Nat.zero_le _
theorem own_grw {w w' : World} {row : Option Nat} {b : Nat} {cs : List Value} {t : TypeId} (o : Own w b cs t) (hg : w.grownBy w' row) (hne : ∀ k, row = some k → k ≠ b) : Own w' b cs t := (hg.block b o.lt (fun e => hne b e.symm rfl)).trans o
theorem info_cl : (Tryz.prog.info? 54).map (fun i => (i.zero, i.size, i.bytes)) = some (some (.agg #[.int .i64 0, .int .i64 0, .int .i64 0, .int .i64 0, .int .i64 0]), 5, 40) := by kernel_rfl
set_option maxRecDepth 100000 in
set_option maxHeartbeats 8000000 in
theorem cls_any (vh vt : Value) (hs : List Hr) (ts : List Tr) (n : Nat) (f : Int) (w : World) (hh : HsOk w vh hs n) (ht : TsOk w vt ts n) (n60 : n ≤ 60) (hfew : ∀ r ∈ ts, r.t.us.length ≤ 70 ∧ r.t.gs.length ≤ 70) (hc : ∀ r ∈ ts, (∀ u ∈ r.t.us, smalC u.s u.o) ∧ ∀ g ∈ r.t.gs, smalC g.s g.o) :
  Calls Tryz.prog 8 #[vh, vt, .int .i64 f] w fun e w' => ∃ v, e = .returned v ∧ SlT c5L w' v (clsF f (hs.map Hr.h) (ts.map Tr.t)) ∧ Below w.heap.size w w' := by
 have hhl := hh.len
 have htl := ht.len
 obtain ⟨p, cap, e0, hlc, hcm, hpn⟩ := SlT.form (L := hrL) n hh.sl hhl
 subst e0
 obtain ⟨p2, cap2, e0, hlc2, hcm2, hpn2⟩ := SlT.form (L := trL) n ht.sl htl
 subst e0
 have HH := Lib.hid hh
 have HT := Lib.hid ht
 have HC := Lib.hid hc
 have HFW := Lib.hid hfew
 have HHL := Lib.hid hhl
 have HTL := Lib.hid htl
 unfold maxLen at hcm hcm2
 clear hpn hpn2 hh ht hc hfew hhl htl
 have n0 : (0 : Int) ≤ (n : Int) := Int.natCast_nonneg _
 have n1 : (n : Int) ≤ 60 := by omega
 obtain ⟨iC, hi, hz, hs0, hb0⟩ := info_parts info_cl
 have IFC := Lib.hid (And.intro hi (And.intro hz (And.intro hs0 hb0)))
 clear hi hz hs0 hb0
 have qT := fun (w : World) (r : Option Nat) => run_eql_map_nil (P := Tryz.prog) w 75 _ _ r Tryz.underlying75
 have hmm := @run_makeMap Tryz.prog
 go_enter Tryz.func8, Tryz.ntmps8
 go_wp2_with fail
 have SM0 := Lib.hid (senM_made w)
 have B0 := Lib.hid (belowNew w (.map #[] 0))
 generalize w.alloc (.map #[] 0) = w1 at SM0 B0 ⊢
 go_loopw [27] (fun ii wz => ∃ i : Nat, i ≤ n ∧ ii = .int .i64 i ∧ CI1 w (logN (ts.map Tr.t) i) (200 * i) wz) (fun ii _ => n - (intOf ii).toNat)
 case atStart => exact ⟨0, by omega, rfl, 0, _, by omega, SM0.out, B0.out⟩
 case round =>
  clear SM0 B0
  obtain ⟨i, hi, rfl, k, G, hk, hsm, hbel⟩ := hrel
  have SM := Lib.hid hsm
  have BE := Lib.hid hbel
  clear hsm hbel
  have j0 : (0 : Int) ≤ (i : Int) := Int.natCast_nonneg _
  by_cases hlt : i < n
  ·obtain ⟨r, b, off, hr, rfl, hbl, _, x0, x1, x2⟩ := SlT.atT HT.out.sl BE.out (i := i) (by rw [HTL.out]; exact hlt)
   obtain ⟨h, bh, offh, hh, rfl, hbhl, _, y0⟩ := SlT.atH HH.out.sl BE.out (i := i) (by rw [HHL.out]; exact hlt)
   have j1 : (i : Int) < (n : Int) := by omega
   have HR := Lib.hid (HT.out.ok r (mem_of_at hr))
   have HRF := Lib.hid (HFW.out r (mem_of_at hr))
   have HRC := Lib.hid (HC.out r (mem_of_at hr))
   have HLG := Lib.hid (show logN (ts.map Tr.t) (i + 1) = logN (ts.map Tr.t) i ++ logT i r.t.us from logN_step (by rw [List.getElem?_map, hr]; rfl))
   obtain ⟨hl, ⟨hp, hn, hcp⟩⟩ := h
   have e1 : hn = n := by
    have h1 := HH.out.ok _ (mem_of_at hh)
    have h2 := HH.out.row _ (mem_of_at hh)
    exact (SlT.len_eq h1).trans h2
   subst e1
   obtain ⟨rt, ⟨pu, nu, cu⟩, ⟨pg, ng, cg⟩, ⟨pa, na, ca⟩⟩ := r
   have e2 : nu = rt.us.length := SlT.len_eq HR.out.1
   subst e2
   have hul : rt.us.length ≤ 70 := HRF.out.1
   clear hr hh
   dsimp only at x0 x1 x2 y0
   obtain ⟨wo, rfl⟩ : ∃ wo : World, wo = wr := ⟨_, rfl⟩
   have C0 := Lib.hid (show CI1 w (logN (ts.map Tr.t) i ++ logT i (rt.us.take 0)) (200 * i + 2 * 0) (wo.alloc (Obj.cells #[.slice pu rt.us.length cu, .slice pg ng cg, .slice pa na ca] 43)) from ⟨k, G, by omega, by simpa [logT] using SM.out.below (belowNew _ _), BE.out.alloc BE.out.size _⟩)
   go_wp2_with fail
   clear SM BE hk x0 x1 x2 y0
   go_loopw [43] (fun jj wz => ∃ j : Nat, j ≤ rt.us.length ∧ jj = .int .i64 j ∧ CI1 w (logN (ts.map Tr.t) i ++ logT i (rt.us.take j)) (200 * i + 2 * j) wz) (fun jj _ => rt.us.length - (intOf jj).toNat)
   case atStart => exact ⟨0, by omega, rfl, C0.out⟩
   case round =>
    clear C0
    obtain ⟨j, hj, rfl, k, G, hk, hsm, hbel⟩ := hrel
    have SM := Lib.hid hsm
    have BE := Lib.hid hbel
    clear hsm hbel
    have i0 : (0 : Int) ≤ (j : Int) := Int.natCast_nonneg _
    by_cases hlt2 : j < rt.us.length
    ·obtain ⟨u, bu, ou, hu, rfl, hbu, _, u0, u1, u2, u3⟩ := HR.out.1.atU BE.out hlt2
     have i1 : (j : Int) < (rt.us.length : Int) := by omega
     have HU := Lib.hid (show logT i (rt.us.take (j + 1)) = logT i (rt.us.take j) ++ [((u.s, u.o), (i : Int))] from logT_step hu)
     have HSC := Lib.hid (HRC.out.1 u (mem_of_at hu))
     clear hu
     have BA := Lib.hid (BE.out.alloc BE.out.size (Obj.cells #[.int .i64 u.s, .int .i64 u.o, .int .i64 u.p, .int .i64 u.m] 50))
     have SA := Lib.hid (SM.out.below (belowNew wr (Obj.cells #[.int .i64 u.s, .int .i64 u.o, .int .i64 u.p, .int .i64 u.m] 50)))
     cases hG : G (u.s, u.o) with
     | some c =>
      have HG := Lib.hid hG
      clear hG
      have hcl := (SA.out.sets _ _ _ HSC.out HG.out).1
      go_wp2_with (first | ((with_reducible refine sen_look _ _ _ G _ u.s u.o (some c) ?_ ?_ SA.out HSC.out HG.out ?_); (next => rfl); (next => exact ⟨_, _, rfl, rfl, rfl⟩)) | ((with_reducible refine senM_add _ _ _ c G _ u.s u.o i ?_ ?_ SA.out HG.out ?_ HSC.out ?_ ?_); (next => rfl); (next => exact ⟨_, _, _, rfl, rfl, rfl, rfl⟩); (next => omega); (next => omega); intro w6 hset hgrow) | fail)
      go_roundw
      case rel => exact ⟨j + 1, by omega, by go_num, k + 1, G, by omega, by rw [HU.out, ← List.append_assoc]; exact hset, BA.out.grown hgrow BA.out.size (fun q hq => by injection hq with hq; omega)⟩
      case measure => simp [intOf]; omega
     | none =>
      have HG := Lib.hid hG
      clear hG
      have SB := Lib.hid (show SetM ((wr.alloc (Obj.cells #[.int .i64 u.s, .int .i64 u.o, .int .i64 u.p, .int .i64 u.m] 50)).alloc (.map #[] 0)) (wr.heap.size + 1) 0 [] from (by have h9 := setM_made (wr.alloc (Obj.cells #[.int .i64 u.s, .int .i64 u.o, .int .i64 u.p, .int .i64 u.m] 50)); simpa using h9))
      have hwr : w.heap.size < wr.heap.size := senM_lt SM.out
      have HFR := Lib.hid (show ∀ s o, smalC s o → G (s, o) ≠ some (wr.heap.size + 1) from fun s o hso he => by
       have h9 := (SM.out.sets s o _ hso he).2.2.lt
       omega)
      go_wp2_with (first | ((with_reducible refine sen_look _ _ _ G _ u.s u.o (none) ?_ ?_ SA.out HSC.out HG.out ?_); (next => rfl); (next => exact ⟨_, _, rfl, rfl, rfl⟩)) | ((with_reducible refine senM_new _ _ _ (wr.heap.size + 1) G _ u.s u.o ?_ ?_ (SA.out.below (belowNew _ _)) ?_ ?_ ?_ ?_ HG.out ?_ HSC.out ?_); (next => rfl); (next => exact ⟨_, _, _, rfl, rfl, rfl, rfl⟩); (next => exact SB.out); (next => omega); (next => omega); (next => exact HFR.out); (next => omega); intro w5 hset5 hgrow5; have BB := Lib.hid ((BA.out.alloc BA.out.size (.map #[] 0)).grown hgrow5 (by have := BA.out.size; simp at this ⊢; omega) (fun q hq => by injection hq with hq; omega)); have oU5 : Own w5 wr.heap.size [.int .i64 u.s, .int .i64 u.o, .int .i64 u.p, .int .i64 u.m] 50 := own_grw ((own_at _ _ rfl).alloc _) hgrow5 (fun q hq => by injection hq with hq; omega); obtain ⟨cU0, cU1, cU2, cU3, fU, zU⟩ := own4 oU5) | ((with_reducible refine sen_look _ _ _ (updG G u.s u.o (wr.heap.size + 1)) _ u.s u.o (some (wr.heap.size + 1)) ?_ ?_ hset5 HSC.out updG_same ?_); (next => rfl); (next => exact ⟨_, _, rfl, rfl, rfl⟩)) | ((with_reducible refine senM_add _ _ _ (wr.heap.size + 1) (updG G u.s u.o (wr.heap.size + 1)) _ u.s u.o i ?_ ?_ hset5 updG_same ?_ HSC.out ?_ ?_); (next => rfl); (next => exact ⟨_, _, _, rfl, rfl, rfl, rfl⟩); (next => omega); (next => omega); intro w6 hset hgrow) | fail)
      go_roundw
      case rel => exact ⟨j + 1, by omega, by go_num, k + 1 + 1, updG G u.s u.o (wr.heap.size + 1), by omega, by rw [HU.out, ← List.append_assoc]; exact hset, BB.out.grown hgrow BB.out.size (fun q hq => by injection hq with hq; omega)⟩
      case measure => simp [intOf]; omega
    ·obtain rfl : j = rt.us.length := by omega
     rw [List.take_length] at SM
     have SN := Lib.hid (show SenM wr w.heap.size w.heap.size k G (logN (ts.map Tr.t) (i + 1)) from by rw [HLG.out]; exact SM.out)
     go_wp2_with fail
     go_roundw
     case rel => exact ⟨i + 1, by omega, by go_num, k, G, by omega, SN.out, BE.out⟩
     case measure => simp [intOf]; omega
  ·obtain rfl : i = n := by omega
   obtain ⟨wp, rfl⟩ : ∃ wo : World, wo = wr := ⟨_, rfl⟩
   obtain ⟨M, hM⟩ : ∃ M, logN (ts.map Tr.t) i = M := ⟨_, rfl⟩
   have HM := Lib.hid hM
   have D0 := Lib.hid (show CI2 w k G M (clN M f (hs.map Hr.h) (ts.map Tr.t) 0) (.slice none 0 0) wp from ⟨by rw [← hM]; exact SM.out, World.ownsRow_nil _ _ _ _, BE.out⟩)
   clear SM BE hM
   go_wp2_with fail
   go_loopw [12, 65] (fun out ii wz => ∃ l : Nat, l ≤ i ∧ ii = .int .i64 l ∧ CI2 w k G M (clN M f (hs.map Hr.h) (ts.map Tr.t) l) out wz) (fun _ ii _ => i - (intOf ii).toNat)
   case atStart => exact ⟨0, by omega, rfl, D0.out⟩
   case round =>
    clear D0
    obtain ⟨l, hl, rfl, hsm, hrow, hbel⟩ := hrel
    obtain ⟨C1, hC1⟩ : ∃ C1, clN M f (hs.map Hr.h) (ts.map Tr.t) l = C1 := ⟨_, rfl⟩
    rw [hC1] at hrow
    obtain ⟨po, co, hv⟩ := row_form hrow
    subst hv
    have HC1 := Lib.hid hC1
    clear hC1
    have SM := Lib.hid hsm
    have BE := Lib.hid hbel
    have ROW := Lib.hid hrow
    clear hsm hbel hrow
    have l0 : (0 : Int) ≤ (l : Int) := Int.natCast_nonneg _
    by_cases hlt : l < i
    ·obtain ⟨r, b, off, hr, rfl, hbl, _, x0, x1, x2⟩ := SlT.atT HT.out.sl BE.out (i := l) (by rw [HTL.out]; exact hlt)
     obtain ⟨h, bh, offh, hh, rfl, hbhl, hbhw, y0⟩ := SlT.atH HH.out.sl (Below.refl _ _) (i := l) (by rw [HHL.out]; exact hlt)
     have l1 : (l : Int) < (i : Int) := by omega
     have HR := Lib.hid (HT.out.ok r (mem_of_at hr))
     have HRF := Lib.hid (HFW.out r (mem_of_at hr))
     have HRC := Lib.hid (HC.out r (mem_of_at hr))
     have HRW := Lib.hid (HH.out.ok h (mem_of_at hh))
     have HRL := Lib.hid (HH.out.row h (mem_of_at hh))
     have HY := Lib.hid y0
     have HCN := Lib.hid (show clN M f (hs.map Hr.h) (ts.map Tr.t) (l + 1) = clN M f (hs.map Hr.h) (ts.map Tr.t) l ++ clG M f l h.h r.t.gs from clN_step (by rw [List.getElem?_map, hr]; rfl) (by rw [List.getElem?_map, hh]; rfl))
     rw [HC1.out] at HCN
     obtain ⟨hl', ⟨hp, hn, hcp⟩⟩ := h
     have e1 : hn = i := (SlT.len_eq HRW.out).trans HRL.out
     subst e1
     obtain ⟨rt, ⟨pu, nu, cu⟩, ⟨pg, ng, cg⟩, ⟨pa, na, ca⟩⟩ := r
     have e2 : ng = rt.gs.length := SlT.len_eq HR.out.2.1
     subst e2
     have hgl : rt.gs.length ≤ 70 := HRF.out.2
     clear hr hh y0
     dsimp only at x0 x1 x2
     obtain ⟨wo, rfl⟩ : ∃ wo : World, wo = wr := ⟨_, rfl⟩
     have C0 := Lib.hid (show CI2 w k G M (C1 ++ clG M f l hl' (rt.gs.take 0)) (.slice po C1.length co) (wo.alloc (Obj.cells #[.slice pu nu cu, .slice pg rt.gs.length cg, .slice pa na ca] 43)) from ⟨SM.out.below (belowNew _ _), by simpa [clG] using ROW.out.alloc _, BE.out.alloc BE.out.size _⟩)
     go_wp2_with fail
     clear SM BE x0 x1 x2 ROW
     go_loopw [12, 73] (fun out jj wz => ∃ j : Nat, j ≤ rt.gs.length ∧ jj = .int .i64 j ∧ CI2 w k G M (C1 ++ clG M f l hl' (rt.gs.take j)) out wz) (fun _ jj _ => rt.gs.length - (intOf jj).toNat)
     case atStart => exact ⟨0, by omega, rfl, C0.out⟩
     case round =>
      clear C0
      obtain ⟨j, hj, rfl, hsm, hrow, hbel⟩ := hrel
      obtain ⟨C2, hC2⟩ : ∃ C2, C1 ++ clG M f l hl' (rt.gs.take j) = C2 := ⟨_, rfl⟩
      rw [hC2] at hrow
      obtain ⟨po2, co2, hv⟩ := row_form hrow
      subst hv
      have HC2 := Lib.hid hC2
      have SM := Lib.hid hsm
      have BE := Lib.hid hbel
      have ROW := Lib.hid hrow
      clear hsm hbel hrow hC2
      have i0 : (0 : Int) ≤ (j : Int) := Int.natCast_nonneg _
      by_cases hlt2 : j < rt.gs.length
      ·obtain ⟨g, bg, og, hg, rfl, hbg, _, g0, g1, g2, g3, g4⟩ := HR.out.2.1.atG BE.out hlt2
       have i1 : (j : Int) < (rt.gs.length : Int) := by omega
       have HG := Lib.hid (show clG M f l hl' (rt.gs.take (j + 1)) = clG M f l hl' (rt.gs.take j) ++ (if g.u < f then [] else clH M l g hl' hl'.length) from clG_step hg)
       have HSC := Lib.hid (HRC.out.2 g (mem_of_at hg))
       clear hg
       cases hu : decide (g.u < f) with
       | true =>
        have HG2 := Lib.hid (show C1 ++ clG M f l hl' (rt.gs.take (j + 1)) = C2 from by rw [HG.out, if_pos (of_decide_eq_true hu), List.append_nil, HC2.out])
        go_wp2_with fail
        go_roundw
        case rel => exact ⟨j + 1, by omega, by go_num, SM.out.below (belowNew _ _), by rw [HG2.out]; exact ROW.out.alloc _, BE.out.alloc BE.out.size _⟩
        case measure => simp [intOf]; omega
       | false =>
        have HG2 := Lib.hid (show C1 ++ clG M f l hl' (rt.gs.take (j + 1)) = C2 ++ clH M l g hl' hl'.length from by rw [HG.out, if_neg (of_decide_eq_false hu), ← HC2.out, List.append_assoc])
        obtain ⟨wg, rfl⟩ : ∃ wo : World, wo = wr := ⟨_, rfl⟩
        have y1 := (BE.out.cell (p := ⟨bh, offh + l, none⟩) hbhw).trans HY.out
        have y2 : bh < wg.heap.size := Nat.lt_of_lt_of_le hbhw BE.out.size
        have hhn : hl'.length = hn := HRL.out
        have E0 := Lib.hid (show CI2 w k G M (C2 ++ clH M l g hl' 0) (.slice po2 C2.length co2) (wg.alloc (Obj.cells #[.int .i64 g.s, .int .i64 g.o, .int .i64 g.p, .int .i64 g.m, .int .i64 g.u] 52)) from ⟨SM.out.below (belowNew _ _), by rw [show C2 ++ clH M l g hl' 0 = C2 from List.append_nil _]; exact ROW.out.alloc _, BE.out.alloc BE.out.size _⟩)
        have OG0 := Lib.hid (show Own (wg.alloc (Obj.cells #[.int .i64 g.s, .int .i64 g.o, .int .i64 g.p, .int .i64 g.m, .int .i64 g.u] 52)) wg.heap.size [.int .i64 g.s, .int .i64 g.o, .int .i64 g.p, .int .i64 g.m, .int .i64 g.u] 52 from own_at _ _ rfl)
        have HHN := Lib.hid hhn
        clear hhn
        go_wp2_with fail
        obtain ⟨bG, hbG⟩ : ∃ bG, wg.heap.size = bG := ⟨_, rfl⟩
        rw [hbG] at OG0 ⊢
        clear hbG SM BE ROW g0 g1 g2 g3 g4 y1
        go_loopw [12, 86] (fun out cc wz => ∃ c : Nat, c ≤ hn ∧ cc = .int .i64 c ∧ CI2 w k G M (C2 ++ clH M l g hl' c) out wz ∧ Own wz bG [.int .i64 g.s, .int .i64 g.o, .int .i64 g.p, .int .i64 g.m, .int .i64 g.u] 52) (fun _ cc _ => hn - (intOf cc).toNat)
        case atStart => exact ⟨0, by omega, rfl, E0.out, OG0.out⟩
        case round =>
         clear E0 OG0
         obtain ⟨c, hc, rfl, ⟨hsm, hrow, hbel⟩, hO⟩ := hrel
         obtain ⟨C3, hC3⟩ : ∃ C3, C2 ++ clH M l g hl' c = C3 := ⟨_, rfl⟩
         rw [hC3] at hrow
         obtain ⟨po3, co3, hv⟩ := row_form hrow
         subst hv
         have HC3 := Lib.hid hC3
         have SM := Lib.hid hsm
         have BE := Lib.hid hbel
         have ROW := Lib.hid hrow
         have OGG := Lib.hid hO
         clear hsm hbel hrow hC3 hO
         have c0 : (0 : Int) ≤ (c : Int) := Int.natCast_nonneg _
         by_cases hlt3 : c < hn
         ·obtain ⟨is, bi, oi, his, rfl, hbi, _, v0⟩ := SlT.atB HRW.out BE.out (i := c) (by have := HRL.out; dsimp only at this ⊢; omega)
          have c1 : (c : Int) < (hn : Int) := by omega
          have HCH := Lib.hid (show clH M l g hl' (c + 1) = clH M l g hl' c ++ (if clB M l g c is = true then [⟨g.s, g.o, l, g.p, c⟩] else []) from clH_step his)
          clear his
          obtain ⟨cG0, cG1, cG2, cG3, cG4, fG, zG⟩ := own5 OGG.out
          cases is with
          | false =>
           have HNX := Lib.hid (show C2 ++ clH M l g hl' (c + 1) = C3 from by rw [HCH.out, if_neg (by simp [clB]), List.append_nil, HC3.out])
           go_wp2_with fail
           go_roundw
           case rel => exact ⟨c + 1, by omega, by go_num, ⟨SM.out, by rw [HNX.out]; exact ROW.out, BE.out⟩, OGG.out⟩
           case measure => simp [intOf]; omega
          | true =>
           cases hq1 : ((c : Int) != (l : Int)) with
           | false =>
            have HQ : ((c : Int) == (l : Int)) = true := by simpa using hq1
            have HNX := Lib.hid (show C2 ++ clH M l g hl' (c + 1) = C3 from by rw [HCH.out, if_neg (by simp [clB, HQ]), List.append_nil, HC3.out])
            clear HQ
            go_wp2_with fail
            go_roundw
            case rel => exact ⟨c + 1, by omega, by go_num, ⟨SM.out, by rw [HNX.out]; exact ROW.out, BE.out⟩, OGG.out⟩
            case measure => simp [intOf]; omega
           | true =>
            have HQ1 := Lib.hid (show ((c : Int) == (l : Int)) = false by simpa using hq1)
            cases hq2 : ((c : Int) != g.p) with
            | false =>
             have HQ : ((c : Int) == g.p) = true := by simpa using hq2
             have HNX := Lib.hid (show C2 ++ clH M l g hl' (c + 1) = C3 from by rw [HCH.out, if_neg (by simp [clB, HQ]), List.append_nil, HC3.out])
             clear HQ
             go_wp2_with fail
             go_roundw
             case rel => exact ⟨c + 1, by omega, by go_num, ⟨SM.out, by rw [HNX.out]; exact ROW.out, BE.out⟩, OGG.out⟩
             case measure => simp [intOf]; omega
            | true =>
             have HQ2 := Lib.hid (show ((c : Int) == g.p) = false by simpa using hq2)
             obtain ⟨x, hx⟩ : ∃ x, G (g.s, g.o) = x := ⟨_, rfl⟩
             have HX := Lib.hid hx
             clear hx
             cases hq3 : (atC M g.s g.o).contains (c : Int) with
             | false =>
              have HQ3 := Lib.hid hq3
              have HNX := Lib.hid (show C2 ++ clH M l g hl' (c + 1) = C3 from by rw [HCH.out, if_neg (by rw [clB, hq3]; simp), List.append_nil, HC3.out])
              clear hq3
              go_wp2_with (first | ((with_reducible refine sen_look _ _ _ G _ g.s g.o x ?_ ?_ SM.out HSC.out HX.out ?_); (next => rfl); (next => exact ⟨_, _, rfl, rfl, rfl⟩)) | ((with_reducible refine set_look _ _ _ G _ g.s g.o c x false ?_ ?_ SM.out HSC.out ?_ HX.out HQ3.out ?_); (next => rfl); (next => exact ⟨_, _, rfl, rfl, rfl⟩); (next => omega)) | fail)
              go_roundw
              case rel => exact ⟨c + 1, by omega, by go_num, ⟨SM.out, by rw [HNX.out]; exact ROW.out, BE.out⟩, OGG.out⟩
              case measure => simp [intOf]; omega
             | true =>
              have HQ3 := Lib.hid hq3
              have HNX := Lib.hid (show C2 ++ clH M l g hl' (c + 1) = C3 ++ [(⟨g.s, g.o, (l : Int), g.p, (c : Int)⟩ : Cl5)] from by rw [HCH.out, if_pos (by simp [clB, HQ1.out, HQ2.out]; simpa using hq3), ← HC3.out, List.append_assoc])
              clear hq3
              have hql : C3.length ≤ 1000000 := by
               have q1 := clH_len (M := M) (l := l) (g := g) (h := hl') c
               have q2 := clG_len (M := M) (f := f) (l := l) (h := hl') (by have := HHN.out; omega) (rt.gs.take j)
               have q3 := clN_len (M := M) (f := f) (hs := hs.map Hr.h) (ts := ts.map Tr.t) (fun h hh => by obtain ⟨x, hx, rfl⟩ := List.mem_map.1 hh; have := HH.out.row x hx; omega) (fun t ht => by obtain ⟨x, hx, rfl⟩ := List.mem_map.1 ht; exact (HFW.out x hx).2) l
               rw [← HC3.out, ← HC2.out, ← HC1.out, List.length_append, List.length_append]
               rw [List.length_take] at q2
               omega
              have hszw : w.heap.size ≤ wr.heap.size := BE.out.size
              go_wp2_with (first | ((with_reducible refine sen_look _ _ _ G _ g.s g.o x ?_ ?_ SM.out HSC.out HX.out ?_); (next => rfl); (next => exact ⟨_, _, rfl, rfl, rfl⟩)) | ((with_reducible refine set_look _ _ _ G _ g.s g.o c x true ?_ ?_ SM.out HSC.out ?_ HX.out HQ3.out ?_); (next => rfl); (next => exact ⟨_, _, rfl, rfl, rfl⟩); (next => omega)) | (at_builtin; refine wpList_append_own _ rfl _ _ 37 rfl w.heap.size 54 iC _ 5 40 (by kernel_rfl) IFC.out.1 IFC.out.2.1 IFC.out.2.2.1 IFC.out.2.2.2 rfl (by decide) _ C3.length (flatT c5L C3) rfl (ROW.out.alloc _) _ 1 1 (c5L.f (⟨g.s, g.o, (l : Int), g.p, (c : Int)⟩ : Cl5)) rfl rfl (newsTn (L := c5L) (w := wr) (by simp) (⟨g.s, g.o, (l : Int), g.p, (c : Int)⟩ : Cl5) 54) (c5L.one _) ?qc4 ?qc5 ?qc6 ?_))
              case qc4 => unfold maxLen; omega
              case qc5 => omega
              case qc6 => simp; omega
              intro v2 w9 hown hgrow hnil
              have RWa := Lib.hid (ROW.out.alloc (Obj.cells #[.int .i64 g.s, .int .i64 g.o, .int .i64 l, .int .i64 g.p, .int .i64 c] 54))
              have O9 := own_keptT (OGG.out.alloc _) RWa.out (by decide) hgrow
              have S9 := Lib.hid ((SM.out.below (belowNew _ _)).row RWa.out hgrow)
              have B9 := Lib.hid ((BE.out.alloc BE.out.size _).grown hgrow (by simp; omega) (fun q hq => (RWa.out.lt q hq).1))
              have R9 := Lib.hid hown
              clear hown hgrow hnil
              go_wp2_with fail
              go_roundw
              case rel => exact ⟨c + 1, by omega, by go_num, ⟨S9.out, by rw [HNX.out, flatT_append, flatT_one, len_snoc]; exact R9.out, B9.out⟩, O9⟩
              case measure => simp [intOf]; omega
         ·obtain rfl : c = hn := by omega
          have HC4 := Lib.hid (show C1 ++ clG M f l hl' (rt.gs.take (j + 1)) = C3 from by rw [HG2.out, HHN.out, HC3.out])
          go_wp2_with fail
          go_roundw
          case rel => exact ⟨j + 1, by omega, by go_num, SM.out, by rw [HC4.out]; exact ROW.out, BE.out⟩
          case measure => simp [intOf]; omega
      ·obtain rfl : j = rt.gs.length := by omega
       rw [List.take_length] at HC2
       have HC3 := Lib.hid (show clN M f (hs.map Hr.h) (ts.map Tr.t) (l + 1) = C2 from HCN.out.trans HC2.out)
       go_wp2_with fail
       go_roundw
       case rel => exact ⟨l + 1, by omega, by go_num, SM.out, by rw [HC3.out]; exact ROW.out, BE.out⟩
       case measure => simp [intOf]; omega
    ·obtain rfl : l = i := by omega
     have HRES := Lib.hid (show clsF f (hs.map Hr.h) (ts.map Tr.t) = C1 from by
      have h9 := HC1.out
      rw [← HM.out] at h9
      unfold clsF
      rw [List.length_map, HTL.out]; exact h9)
     go_wp2_with fail
     refine bodyPost_ret (v := .slice po C1.length co) (by simp [results, Tryz.results8, go_sem, *]) rfl ⟨_, rfl, by rw [HRES.out]; exact slt_of_own (L := c5L) ROW.out, BE.out⟩
end Go.Proofs.YtmopiifamopidaaGreat
end
section
namespace Go.Proofs.YtmopiifamopidaaGreat
open Go.RowKit
attribute [local go_sem] Oper.semAt_some
def st7 : Nat → (Nat → Tb) × (Nat → List Nb)
 | 0 => (fun _ => ⟨[], [], []⟩, fun _ => [])
 | k + 1 => (frmT 2 4 2 (symH fun _ _ => true) k (fun i => ([-1, 0][i]?).getD 0) (fun i => ([0, 1][i]?).getD 0) (st7 k).1 (st7 k).2, frmR 2 4 2 (symH fun _ _ => true) k (st7 k).1 (st7 k).2)
theorem st7_t0 : (st7 3).1 0 = ⟨[], [⟨1, 4, 1, 1, 10⟩], []⟩ := by kernel_rfl
theorem st7_t1 : (st7 3).1 1 = ⟨[⟨1, 4, 0, 1⟩], [], [⟨3, 6, 0⟩]⟩ := by kernel_rfl
theorem st7_cls : clsF 3 [[false, true, true], [true, false, false], [true, false, false]] [⟨[], [⟨1, 4, 1, 1, 10⟩], []⟩, ⟨[⟨1, 4, 0, 1⟩], [], [⟨3, 6, 0⟩]⟩, ⟨[⟨1, 4, 0, 0⟩], [], []⟩] = [⟨1, 4, 0, 1, 2⟩] := by kernel_rfl
theorem st7_inv : ∀ k, Inv 2 4 2 (2 * k) (st7 k).1 (st7 k).2
 | 0 => ⟨fun i _ => vld_iff.1 (by kernel_rfl), fun i _ => Nat.zero_le _, fun i _ b hb => by simp [st7] at hb⟩
 | k + 1 => frm_inv (st7_inv k)
theorem hsok_of {w : World} {bO n : Nat} {hs : List Hr} {t : TypeId} (o : Own w bO (flatT hrL hs) t) (hn : hs.length = n) (n60 : n ≤ 60) (h : ∀ r ∈ hs, ∃ b, r.v = ⟨some ⟨b, 0, none⟩, n, n⟩ ∧ r.h.length = n ∧ Own w b (flatT boL r.h) 4) : HsOk w (.slice (some ⟨bO, 0, none⟩) n n) hs n := by
 refine ⟨slt_full o hn n60, fun r hr => ?_, hn, fun r hr => ?_⟩
 ·obtain ⟨b, e, hl, ob⟩ := h r hr
  unfold HrOk
  rw [e]
  exact slt_full ob hl n60
 ·obtain ⟨b, e, hl, ob⟩ := h r hr
  exact hl
theorem sm14 : smalC 1 4 := by unfold smalC; omega
def Ce7 (w0 : World) (bW bT bN : Nat) (vh : Sv) (k : Nat) (wz : World) : Prop := ∃ ts ns, Wrd w0 bW bT bN 2 4 2 vh k (st7 k).1 (st7 k).2 ts ns wz
set_option maxRecDepth 100000 in
set_option maxHeartbeats 8000000 in
theorem r7cells_true (w : World) :
  Calls Tryz.prog 4 #[] w fun e w' => e = .returned (.bool true) ∧ Below w.heap.size w w' := by
 go_enter Tryz.func4, Tryz.ntmps4
 go_wp2_with fail
 have o0 : Own (((w.alloc (Obj.cells #[Value.bool false, Value.bool true] 4)).alloc (Obj.cells #[Value.bool true, Value.bool false] 4)).alloc (Obj.cells #[Value.slice (some ⟨w.heap.size, 0, none⟩) 2 2, Value.slice (some ⟨w.heap.size + 1, 0, none⟩) 2 2] 46)) w.heap.size (flatT boL [false, true]) 4 := ((own_at [.bool false, .bool true] _ rfl).alloc _).alloc _
 have o1 : Own (((w.alloc (Obj.cells #[Value.bool false, Value.bool true] 4)).alloc (Obj.cells #[Value.bool true, Value.bool false] 4)).alloc (Obj.cells #[Value.slice (some ⟨w.heap.size, 0, none⟩) 2 2, Value.slice (some ⟨w.heap.size + 1, 0, none⟩) 2 2] 46)) (w.heap.size + 1) (flatT boL [true, false]) 4 := (own_at [.bool true, .bool false] _ (by simp)).alloc _
 have o2 : Own (((w.alloc (Obj.cells #[Value.bool false, Value.bool true] 4)).alloc (Obj.cells #[Value.bool true, Value.bool false] 4)).alloc (Obj.cells #[Value.slice (some ⟨w.heap.size, 0, none⟩) 2 2, Value.slice (some ⟨w.heap.size + 1, 0, none⟩) 2 2] 46)) (w.heap.size + 1 + 1) (flatT hrL ([⟨[false, true], ⟨some ⟨w.heap.size, 0, none⟩, 2, 2⟩⟩, ⟨[true, false], ⟨some ⟨w.heap.size + 1, 0, none⟩, 2, 2⟩⟩] : List Hr)) 46 := own_at [Value.slice (some ⟨w.heap.size, 0, none⟩) 2 2, Value.slice (some ⟨w.heap.size + 1, 0, none⟩) 2 2] _ (by simp)
 have hh : HsOk (((w.alloc (Obj.cells #[Value.bool false, Value.bool true] 4)).alloc (Obj.cells #[Value.bool true, Value.bool false] 4)).alloc (Obj.cells #[Value.slice (some ⟨w.heap.size, 0, none⟩) 2 2, Value.slice (some ⟨w.heap.size + 1, 0, none⟩) 2 2] 46)) (.slice (some ⟨w.heap.size + 1 + 1, 0, none⟩) 2 2) ([⟨[false, true], ⟨some ⟨w.heap.size, 0, none⟩, 2, 2⟩⟩, ⟨[true, false], ⟨some ⟨w.heap.size + 1, 0, none⟩, 2, 2⟩⟩] : List Hr) 2 := hsok_of o2 rfl (by omega) (fun r hr => by
  simp only [List.mem_cons, List.not_mem_nil, or_false] at hr
  rcases hr with rfl | rfl
  ·exact ⟨_, rfl, rfl, o0⟩
  ·exact ⟨_, rfl, rfl, o1⟩)
 have hb : Below w.heap.size w (((w.alloc (Obj.cells #[Value.bool false, Value.bool true] 4)).alloc (Obj.cells #[Value.bool true, Value.bool false] 4)).alloc (Obj.cells #[Value.slice (some ⟨w.heap.size, 0, none⟩) 2 2, Value.slice (some ⟨w.heap.size + 1, 0, none⟩) 2 2] 46)) := ((belowNew w _).alloc (by simp) _).alloc (by simp; omega) _
 have hhe : ∀ (i : Nat) (r : Hr), ([⟨[false, true], ⟨some ⟨w.heap.size, 0, none⟩, 2, 2⟩⟩, ⟨[true, false], ⟨some ⟨w.heap.size + 1, 0, none⟩, 2, 2⟩⟩] : List Hr)[i]? = some r → ∀ (k : Nat) (b : Bool), r.h[k]? = some b → symH (fun _ _ => true) i k = b := by
  intro i r hr k b hk
  match i, hr with
  | 0, hr => obtain rfl := Option.some.inj hr; match k, hk with
   | 0, hk => exact Option.some.inj hk
   | 1, hk => exact Option.some.inj hk
  | 1, hr => obtain rfl := Option.some.inj hr; match k, hk with
   | 0, hk => exact Option.some.inj hk
   | 1, hk => exact Option.some.inj hk
 obtain ⟨hs2, hhs⟩ : ∃ l, ([⟨[false, true], ⟨some ⟨w.heap.size, 0, none⟩, 2, 2⟩⟩, ⟨[true, false], ⟨some ⟨w.heap.size + 1, 0, none⟩, 2, 2⟩⟩] : List Hr) = l := ⟨_, rfl⟩
 rw [hhs] at hh hhe
 clear hhs o2 o0 o1
 obtain ⟨p2, hp2⟩ : ∃ p, (some ⟨w.heap.size + 1 + 1, 0, none⟩ : Option Addr) = p := ⟨_, rfl⟩
 rw [hp2] at hh ⊢
 clear hp2
 have HH := Lib.hid hh
 have HHE := Lib.hid hhe
 have HB := Lib.hid hb
 clear hh hhe hb
 generalize (((w.alloc (Obj.cells #[Value.bool false, Value.bool true] 4)).alloc (Obj.cells #[Value.bool true, Value.bool false] 4)).alloc (Obj.cells #[Value.slice (some ⟨w.heap.size, 0, none⟩) 2 2, Value.slice (some ⟨w.heap.size + 1, 0, none⟩) 2 2] 46)) = w3 at HH HB ⊢
 have q := nw7_any 4 2 ⟨p2, 2, 2⟩ w3 (by omega)
 rw [show ((2 : Nat) : Int) = 2 from rfl] at q
 refine q.mono ?_
 clear q
 rintro e w4 ⟨bW, bT, bN, rfl, ts, ns, hW⟩
 have I0 := Lib.hid (show Ce7 w3 bW bT bN ⟨p2, 2, 2⟩ 0 w4 from ⟨ts, ns, hW⟩)
 clear hW
 go_wp2_with fail
 go_loopw [9] (fun kk wz => ∃ k : Nat, k ≤ 3 ∧ kk = .int .i64 k ∧ Ce7 w3 bW bT bN ⟨p2, 2, 2⟩ k wz) (fun kk _ => 3 - (intOf kk).toNat)
 case atStart => exact ⟨0, by omega, rfl, I0.out⟩
 case round =>
  clear I0
  obtain ⟨k, hk, rfl, ts, ns, hW⟩ := hrel
  have HW := Lib.hid hW
  clear hW
  have k0 : (0 : Int) ≤ (k : Int) := Int.natCast_nonneg _
  by_cases hlt : k < 3
  ·have k1 : (k : Int) < 3 := by omega
   go_wp2_with fail
   refine (frm_any w3 bW bT bN 2 4 k 2 (2 * k) ⟨p2, 2, 2⟩ hs2 (symH fun _ _ => true) (st7 k).1 (st7 k).2 ts ns _ _ [-1, 0] [0, 1] _ (HW.out.below ((belowNew wr _).alloc (by simp) _)) HH.out HHE.out (slt_full (t := 3) ((own_at [.int .i64 (-1), .int .i64 0] _ rfl).alloc _) rfl (by decide)) (slt_full (t := 3) (own_at [.int .i64 0, .int .i64 1] _ (by simp)) rfl (by decide)) rfl rfl (by intro x hx; simp at hx; omega) (st7_inv k) (by omega) (by omega) k0 (by omega)).mono ?_
   rintro e w5 ⟨rfl, ts2, ns2, hW2⟩
   have HW2 := Lib.hid (show Ce7 w3 bW bT bN ⟨p2, 2, 2⟩ (k + 1) w5 from ⟨ts2, ns2, hW2⟩)
   clear hW2
   go_wp2_with fail
   go_roundw
   case rel => exact ⟨k + 1, by omega, by go_num, HW2.out⟩
   case measure => simp [intOf]; omega
  ·obtain rfl : k = 3 := by omega
   obtain ⟨r0, hr0, e0, ok0, a0, a1, a2⟩ := HW.out.tabAt (i := 0) (by omega)
   obtain ⟨r1, hr1, e1, ok1, b0, b1, b2⟩ := HW.out.tabAt (i := 1) (by omega)
   rw [st7_t0] at e0
   rw [st7_t1] at e1
   obtain ⟨rt0, ⟨pu0, nu0, cu0⟩, ⟨pg0, ng0, cg0⟩, ⟨pa0, na0, ca0⟩⟩ := r0
   obtain ⟨rt1, ⟨pu1, nu1, cu1⟩, ⟨pg1, ng1, cg1⟩, ⟨pa1, na1, ca1⟩⟩ := r1
   dsimp only at e0 e1 a0 a1 a2 b0 b1 b2
   subst e0 e1
   have OK0 := Lib.hid ok0
   have OK1 := Lib.hid ok1
   clear ok0 ok1
   have hg := OK0.out.2.1
   have hu := OK1.out.1
   dsimp only at hg hu
   obtain rfl : ng0 = 1 := SlT.len_eq hg
   obtain rfl : nu1 = 1 := SlT.len_eq hu
   obtain ⟨g, bg, og, hgg, rfl, _, zg, cg⟩ := hg.at (Below.refl _ _) (i := 0) (by decide)
   obtain rfl := Option.some.inj hgg
   obtain ⟨u, bu, ou, huu, rfl, _, zu, cu⟩ := hu.at (Below.refl _ _) (i := 0) (by decide)
   obtain rfl := Option.some.inj huu
   have g0 := cg 0 _ rfl
   have g1 := cg 1 _ rfl
   have u0 := cu 0 _ rfl
   have u1 := cu 1 _ rfl
   clear cg cu hg hu hgg huu
   simp only [Nat.zero_mul, Nat.one_mul, Nat.add_zero, Nat.zero_add] at a0 a1 a2 b0 b1 b2 g0 g1 u0 u1
   obtain ⟨_, _, _, c3, _, _, _, zW⟩ := own6 HW.out.oW
   have zT := HW.out.oT.lt
   go_upto_region 7 with fail
   go_quiet (fail)
   have BQ := Lib.hid (show Below w.heap.size w (wr.drewN nq) from HB.out.trans (belowN ((HW.out.bel).mono HB.out.size)))
   have HQ := Lib.hid (HW.out.below (belowN (n := nq) (Below.refl _ _)))
   have OQ0 := Lib.hid (OK0.out.below (belowN (n := nq) (Below.refl _ _)))
   have OQ1 := Lib.hid (OK1.out.below (belowN (n := nq) (Below.refl _ _)))
   clear a0 a1 a2 b0 b1 b2 g0 g1 u0 u1 c3 zW zT OK0 OK1 HW zg zu
   generalize wr.drewN nq = wq at BQ HQ OQ0 OQ1 ⊢
   go_upto_region 10 with fail
   have o0 : Own ((((wq.alloc (Obj.cells #[Value.bool false, Value.bool true, Value.bool true] 4)).alloc (Obj.cells #[Value.bool true, Value.bool false, Value.bool false] 4)).alloc (Obj.cells #[Value.bool true, Value.bool false, Value.bool false] 4)).alloc (Obj.cells #[Value.slice (some ⟨wq.heap.size, 0, none⟩) 3 3, Value.slice (some ⟨wq.heap.size + 1, 0, none⟩) 3 3, Value.slice (some ⟨wq.heap.size + 1 + 1, 0, none⟩) 3 3] 46)) wq.heap.size (flatT boL [false, true, true]) 4 := (((own_at [.bool false, .bool true, .bool true] _ rfl).alloc _).alloc _).alloc _
   have o1 : Own ((((wq.alloc (Obj.cells #[Value.bool false, Value.bool true, Value.bool true] 4)).alloc (Obj.cells #[Value.bool true, Value.bool false, Value.bool false] 4)).alloc (Obj.cells #[Value.bool true, Value.bool false, Value.bool false] 4)).alloc (Obj.cells #[Value.slice (some ⟨wq.heap.size, 0, none⟩) 3 3, Value.slice (some ⟨wq.heap.size + 1, 0, none⟩) 3 3, Value.slice (some ⟨wq.heap.size + 1 + 1, 0, none⟩) 3 3] 46)) (wq.heap.size + 1) (flatT boL [true, false, false]) 4 := ((own_at [.bool true, .bool false, .bool false] _ (by simp)).alloc _).alloc _
   have o2 : Own ((((wq.alloc (Obj.cells #[Value.bool false, Value.bool true, Value.bool true] 4)).alloc (Obj.cells #[Value.bool true, Value.bool false, Value.bool false] 4)).alloc (Obj.cells #[Value.bool true, Value.bool false, Value.bool false] 4)).alloc (Obj.cells #[Value.slice (some ⟨wq.heap.size, 0, none⟩) 3 3, Value.slice (some ⟨wq.heap.size + 1, 0, none⟩) 3 3, Value.slice (some ⟨wq.heap.size + 1 + 1, 0, none⟩) 3 3] 46)) (wq.heap.size + 1 + 1) (flatT boL [true, false, false]) 4 := (own_at [.bool true, .bool false, .bool false] _ (by simp)).alloc _
   have o3 : Own ((((wq.alloc (Obj.cells #[Value.bool false, Value.bool true, Value.bool true] 4)).alloc (Obj.cells #[Value.bool true, Value.bool false, Value.bool false] 4)).alloc (Obj.cells #[Value.bool true, Value.bool false, Value.bool false] 4)).alloc (Obj.cells #[Value.slice (some ⟨wq.heap.size, 0, none⟩) 3 3, Value.slice (some ⟨wq.heap.size + 1, 0, none⟩) 3 3, Value.slice (some ⟨wq.heap.size + 1 + 1, 0, none⟩) 3 3] 46)) (wq.heap.size + 1 + 1 + 1) (flatT hrL ([⟨[false, true, true], ⟨some ⟨wq.heap.size, 0, none⟩, 3, 3⟩⟩, ⟨[true, false, false], ⟨some ⟨wq.heap.size + 1, 0, none⟩, 3, 3⟩⟩, ⟨[true, false, false], ⟨some ⟨wq.heap.size + 1 + 1, 0, none⟩, 3, 3⟩⟩] : List Hr)) 46 := own_at [Value.slice (some ⟨wq.heap.size, 0, none⟩) 3 3, Value.slice (some ⟨wq.heap.size + 1, 0, none⟩) 3 3, Value.slice (some ⟨wq.heap.size + 1 + 1, 0, none⟩) 3 3] _ (by simp)
   have hh : HsOk ((((wq.alloc (Obj.cells #[Value.bool false, Value.bool true, Value.bool true] 4)).alloc (Obj.cells #[Value.bool true, Value.bool false, Value.bool false] 4)).alloc (Obj.cells #[Value.bool true, Value.bool false, Value.bool false] 4)).alloc (Obj.cells #[Value.slice (some ⟨wq.heap.size, 0, none⟩) 3 3, Value.slice (some ⟨wq.heap.size + 1, 0, none⟩) 3 3, Value.slice (some ⟨wq.heap.size + 1 + 1, 0, none⟩) 3 3] 46)) (.slice (some ⟨wq.heap.size + 1 + 1 + 1, 0, none⟩) 3 3) ([⟨[false, true, true], ⟨some ⟨wq.heap.size, 0, none⟩, 3, 3⟩⟩, ⟨[true, false, false], ⟨some ⟨wq.heap.size + 1, 0, none⟩, 3, 3⟩⟩, ⟨[true, false, false], ⟨some ⟨wq.heap.size + 1 + 1, 0, none⟩, 3, 3⟩⟩] : List Hr) 3 := hsok_of o3 rfl (by omega) (fun r hr => by
    simp only [List.mem_cons, List.not_mem_nil, or_false] at hr
    rcases hr with rfl | rfl | rfl
    ·exact ⟨_, rfl, rfl, o0⟩
    ·exact ⟨_, rfl, rfl, o1⟩
    ·exact ⟨_, rfl, rfl, o2⟩)
   have hb : Below wq.heap.size wq ((((wq.alloc (Obj.cells #[Value.bool false, Value.bool true, Value.bool true] 4)).alloc (Obj.cells #[Value.bool true, Value.bool false, Value.bool false] 4)).alloc (Obj.cells #[Value.bool true, Value.bool false, Value.bool false] 4)).alloc (Obj.cells #[Value.slice (some ⟨wq.heap.size, 0, none⟩) 3 3, Value.slice (some ⟨wq.heap.size + 1, 0, none⟩) 3 3, Value.slice (some ⟨wq.heap.size + 1 + 1, 0, none⟩) 3 3] 46)) := (((belowNew wq _).alloc (by simp) _).alloc (by simp; omega) _).alloc (by simp; omega) _
   have hm : ([⟨[false, true, true], ⟨some ⟨wq.heap.size, 0, none⟩, 3, 3⟩⟩, ⟨[true, false, false], ⟨some ⟨wq.heap.size + 1, 0, none⟩, 3, 3⟩⟩, ⟨[true, false, false], ⟨some ⟨wq.heap.size + 1 + 1, 0, none⟩, 3, 3⟩⟩] : List Hr).map Hr.h = [[false, true, true], [true, false, false], [true, false, false]] := rfl
   obtain ⟨hs3, hhs⟩ : ∃ l, ([⟨[false, true, true], ⟨some ⟨wq.heap.size, 0, none⟩, 3, 3⟩⟩, ⟨[true, false, false], ⟨some ⟨wq.heap.size + 1, 0, none⟩, 3, 3⟩⟩, ⟨[true, false, false], ⟨some ⟨wq.heap.size + 1 + 1, 0, none⟩, 3, 3⟩⟩] : List Hr) = l := ⟨_, rfl⟩
   rw [hhs] at hh hm
   clear hhs o3 o2 o0 o1
   obtain ⟨p3, hp3⟩ : ∃ p, (some ⟨wq.heap.size + 1 + 1 + 1, 0, none⟩ : Option Addr) = p := ⟨_, rfl⟩
   rw [hp3] at hh ⊢
   clear hp3
   have H3 := Lib.hid hh
   have HM3 := Lib.hid hm
   have HY := Lib.hid (HQ.out.below hb)
   have OY0 := Lib.hid (OQ0.out.below hb)
   have OY1 := Lib.hid (OQ1.out.below hb)
   have BY := Lib.hid (BQ.out.trans (hb.mono BQ.out.size))
   clear hh hm hb HQ OQ0 OQ1 BQ
   generalize ((((wq.alloc (Obj.cells #[Value.bool false, Value.bool true, Value.bool true] 4)).alloc (Obj.cells #[Value.bool true, Value.bool false, Value.bool false] 4)).alloc (Obj.cells #[Value.bool true, Value.bool false, Value.bool false] 4)).alloc (Obj.cells #[Value.slice (some ⟨wq.heap.size, 0, none⟩) 3 3, Value.slice (some ⟨wq.heap.size + 1, 0, none⟩) 3 3, Value.slice (some ⟨wq.heap.size + 1 + 1, 0, none⟩) 3 3] 46)) = wy at H3 HY OY0 OY1 BY ⊢
   obtain ⟨r, hr, _, _, a0, a1, a2⟩ := HY.out.tabAt (i := 0) (by omega)
   obtain rfl := Option.some.inj (hr0.symm.trans hr)
   obtain ⟨r, hr, _, _, b0, b1, b2⟩ := HY.out.tabAt (i := 1) (by omega)
   obtain rfl := Option.some.inj (hr1.symm.trans hr)
   clear hr
   obtain ⟨u, _, _, huu, e9, _, zu, cu⟩ := SlT.at OY1.out.1 (Below.refl _ _) (i := 0) Nat.one_pos
   obtain rfl := Option.some.inj huu
   have u0 := cu 0 _ rfl
   have u1 := cu 1 _ rfl
   obtain ⟨rfl, rfl⟩ : bu = _ ∧ ou = _ := by injection e9 with e9; injection e9 with e9 e8; exact ⟨e9, e8⟩
   dsimp only at a0 a1 a2 b0 b1 b2
   simp only [Nat.zero_mul, Nat.one_mul, Nat.add_zero, Nat.zero_add] at a0 a1 a2 b0 b1 b2 u0 u1
   clear cu huu e9
   have zT := HY.out.oT.lt
   have KEEP0 := And.intro a0 (And.intro a1 (And.intro a2 (And.intro b0 (And.intro b1 (And.intro b2 (And.intro u0 u1))))))
   clear a0 a1 a2 b0 b1 b2 u0 u1
   refine (wpIn_wide (n := 9)).1 ?_
   refine region_S 20 #[false, false, false, false, false, false, false, false, false, false, false, false, false, false, false, false, false, false, false, false] (by kernel_rfl) (by kernel_rfl) (fun w' => w'.cell? ⟨bT, 0, none⟩ = some (.slice pu0 nu0 cu0) ∧ w'.cell? ⟨bT, 1, none⟩ = some (.slice (some ⟨bg, og, none⟩) 1 cg0) ∧ w'.cell? ⟨bT, 2, none⟩ = some (.slice pa0 na0 ca0) ∧ w'.cell? ⟨bT, 3, none⟩ = some (.slice (some ⟨bu, ou, none⟩) 1 cu1) ∧ w'.cell? ⟨bT, 4, none⟩ = some (.slice pg1 ng1 cg1) ∧ w'.cell? ⟨bT, 5, none⟩ = some (.slice pa1 na1 ca1) ∧ w'.cell? ⟨bu, ou, none⟩ = some (.int .i64 1) ∧ w'.cell? ⟨bu, ou + 1, none⟩ = some (.int .i64 4)) 20 _ (fun _ _ h => h) (fun _ => trivial) (by kernel_rfl) ?x1s (fun hHeld hClo => ?x1r)
   case x1s => exact KEEP0
   refine tS 0 55 ?_
   clear hClo
   intro hClo
   refine tS 1 56 ?_
   clear hClo
   intro hClo
   refine tS 2 57 ?_
   clear hClo
   intro hClo
   refine tS 3 58 ?_
   clear hClo
   intro hClo
   refine tS 4 59 ?_
   clear hClo
   intro hClo
   refine tS 5 60 ?_
   clear hClo
   intro hClo
   refine tS 6 61 ?_
   clear hClo
   intro hClo
   refine tS 7 62 ?_
   clear hClo
   intro hClo
   refine tS 8 63 ?_
   clear hClo
   intro hClo
   refine tS 9 64 ?_
   clear hClo
   intro hClo
   refine tS 10 65 ?_
   clear hClo
   intro hClo
   refine tS 11 66 ?_
   clear hClo
   intro hClo
   refine tS 12 67 ?_
   clear hClo
   intro hClo
   refine tS 13 68 ?_
   clear hClo
   intro hClo
   refine wpS_take (i := 14) (some 69) 60 (v := .agg #[.int .i64 1, .int .i64 4, .int .i64 0, .int .i64 0]) (fun _ => trivial) (by kernel_rfl) rfl (by kernel_rfl) (by kernel_rfl) (by kernel_rfl) (by kernel_rfl) rfl (Or.inl ⟨by rfl, ?x16y⟩) hHeld hClo ?x16r
   case x16y => (intro wBld hSw; exact build_yields 50 #[(0, .tmp 68)] #[.int .i64 1, .int .i64 4, .int .i64 0, .int .i64 0] rfl (by kernel_rfl))
   (intro hN; clear hClo; have hClo := hN; clear hN)
   try simp only [Act.put, List.setIfInBounds_toArray, List.set_cons_zero, List.set_cons_succ]
   refine wpS_one (i := 15) (by kernel_rfl) rfl hClo (fun K hK => ?_)
   rw [if_pos (by rfl)]
   go_simp
   refine hK _ _ (fun _ => ⟨(((belowNew wy _).drew).cell zT).trans KEEP0.1, (((belowNew wy _).drew).cell zT).trans KEEP0.2.1, (((belowNew wy _).drew).cell zT).trans KEEP0.2.2.1, (((belowNew wy _).drew).cell zT).trans KEEP0.2.2.2.1, (((belowNew wy _).drew).cell zT).trans KEEP0.2.2.2.2.1, (((belowNew wy _).drew).cell zT).trans KEEP0.2.2.2.2.2.1, (((belowNew wy _).drew).cell zu).trans KEEP0.2.2.2.2.2.2.1, (((belowNew wy _).drew).cell zu).trans KEEP0.2.2.2.2.2.2.2⟩) ?_
   clear hK K hHeld
   intro hH0
   have hHeld := hH0 (by kernel_rfl)
   clear hH0
   (intro hN; clear hClo; have hClo := hN; clear hN)
   try simp only [Act.put, List.setIfInBounds_toArray, List.set_cons_zero, List.set_cons_succ]
   refine wpS_take (i := 16) (some 71) 60 (v := .agg #[.slice (some ⟨wy.heap.size, 0, none⟩) 1 1, .slice none 0 0, .slice none 0 0]) (fun _ => trivial) (by kernel_rfl) rfl (by kernel_rfl) (by kernel_rfl) (by kernel_rfl) (by kernel_rfl) rfl (Or.inl ⟨by rfl, ?x17y⟩) hHeld hClo ?x17r
   case x17y => (intro wBld hSw; exact build_yields 43 #[(0, .tmp 70)] #[.slice (some ⟨wy.heap.size, 0, none⟩) 1 1, .slice none 0 0, .slice none 0 0] rfl (by kernel_rfl))
   (intro hN; clear hClo; have hClo := hN; clear hN)
   try simp only [Act.put, List.setIfInBounds_toArray, List.set_cons_zero, List.set_cons_succ]
   refine wpS_one (i := 17) (by kernel_rfl) rfl hClo (fun K hK => ?_)
   rw [if_pos (by rfl)]
   go_simp
   have BX := Lib.hid (show Below wy.heap.size wy ((wy.alloc (Obj.cells #[Value.int .i64 1, Value.int .i64 4, Value.int .i64 0, Value.int .i64 0] 50)).alloc (Obj.cells #[Value.slice pu0 nu0 cu0, Value.slice (some ⟨bg, og, none⟩) 1 cg0, Value.slice pa0 na0 ca0, Value.slice (some ⟨bu, ou, none⟩) 1 cu1, Value.slice pg1 ng1 cg1, Value.slice pa1 na1 ca1, Value.slice (some ⟨wy.heap.size, 0, none⟩) 1 1, Value.slice none 0 0, Value.slice none 0 0] 43)).drew from ((belowNew wy _).alloc (by simp) _).drew)
   have o15 : Own ((wy.alloc (Obj.cells #[Value.int .i64 1, Value.int .i64 4, Value.int .i64 0, Value.int .i64 0] 50)).alloc (Obj.cells #[Value.slice pu0 nu0 cu0, Value.slice (some ⟨bg, og, none⟩) 1 cg0, Value.slice pa0 na0 ca0, Value.slice (some ⟨bu, ou, none⟩) 1 cu1, Value.slice pg1 ng1 cg1, Value.slice pa1 na1 ca1, Value.slice (some ⟨wy.heap.size, 0, none⟩) 1 1, Value.slice none 0 0, Value.slice none 0 0] 43)).drew wy.heap.size [.int .i64 1, .int .i64 4, .int .i64 0, .int .i64 0] 50 := ((own_at [.int .i64 1, .int .i64 4, .int .i64 0, .int .i64 0] _ rfl).alloc _).drew
   have o17 : Own ((wy.alloc (Obj.cells #[Value.int .i64 1, Value.int .i64 4, Value.int .i64 0, Value.int .i64 0] 50)).alloc (Obj.cells #[Value.slice pu0 nu0 cu0, Value.slice (some ⟨bg, og, none⟩) 1 cg0, Value.slice pa0 na0 ca0, Value.slice (some ⟨bu, ou, none⟩) 1 cu1, Value.slice pg1 ng1 cg1, Value.slice pa1 na1 ca1, Value.slice (some ⟨wy.heap.size, 0, none⟩) 1 1, Value.slice none 0 0, Value.slice none 0 0] 43)).drew (wy.heap.size + 1) (flatT trL [(⟨⟨[], [⟨1, 4, 1, 1, 10⟩], []⟩, ⟨pu0, nu0, cu0⟩, ⟨some ⟨bg, og, none⟩, 1, cg0⟩, ⟨pa0, na0, ca0⟩⟩ : Tr), (⟨⟨[⟨1, 4, 0, 1⟩], [], [⟨3, 6, 0⟩]⟩, ⟨some ⟨bu, ou, none⟩, 1, cu1⟩, ⟨pg1, ng1, cg1⟩, ⟨pa1, na1, ca1⟩⟩ : Tr), (⟨⟨[⟨1, 4, 0, 0⟩], [], []⟩, ⟨some ⟨wy.heap.size, 0, none⟩, 1, 1⟩, nilSv, nilSv⟩ : Tr)]) 43 := (own_at [Value.slice pu0 nu0 cu0, Value.slice (some ⟨bg, og, none⟩) 1 cg0, Value.slice pa0 na0 ca0, Value.slice (some ⟨bu, ou, none⟩) 1 cu1, Value.slice pg1 ng1 cg1, Value.slice pa1 na1 ca1, Value.slice (some ⟨wy.heap.size, 0, none⟩) 1 1, Value.slice none 0 0, Value.slice none 0 0] _ (by simp)).drew
   have hsu : SlU ((wy.alloc (Obj.cells #[Value.int .i64 1, Value.int .i64 4, Value.int .i64 0, Value.int .i64 0] 50)).alloc (Obj.cells #[Value.slice pu0 nu0 cu0, Value.slice (some ⟨bg, og, none⟩) 1 cg0, Value.slice pa0 na0 ca0, Value.slice (some ⟨bu, ou, none⟩) 1 cu1, Value.slice pg1 ng1 cg1, Value.slice pa1 na1 ca1, Value.slice (some ⟨wy.heap.size, 0, none⟩) 1 1, Value.slice none 0 0, Value.slice none 0 0] 43)).drew (.slice (some ⟨wy.heap.size, 0, none⟩) 1 1) [⟨1, 4, 0, 0⟩] := slt_full o15 rfl (by decide)
   have ht : TsOk ((wy.alloc (Obj.cells #[Value.int .i64 1, Value.int .i64 4, Value.int .i64 0, Value.int .i64 0] 50)).alloc (Obj.cells #[Value.slice pu0 nu0 cu0, Value.slice (some ⟨bg, og, none⟩) 1 cg0, Value.slice pa0 na0 ca0, Value.slice (some ⟨bu, ou, none⟩) 1 cu1, Value.slice pg1 ng1 cg1, Value.slice pa1 na1 ca1, Value.slice (some ⟨wy.heap.size, 0, none⟩) 1 1, Value.slice none 0 0, Value.slice none 0 0] 43)).drew (.slice (some ⟨wy.heap.size + 1, 0, none⟩) 3 3) [(⟨⟨[], [⟨1, 4, 1, 1, 10⟩], []⟩, ⟨pu0, nu0, cu0⟩, ⟨some ⟨bg, og, none⟩, 1, cg0⟩, ⟨pa0, na0, ca0⟩⟩ : Tr), (⟨⟨[⟨1, 4, 0, 1⟩], [], [⟨3, 6, 0⟩]⟩, ⟨some ⟨bu, ou, none⟩, 1, cu1⟩, ⟨pg1, ng1, cg1⟩, ⟨pa1, na1, ca1⟩⟩ : Tr), (⟨⟨[⟨1, 4, 0, 0⟩], [], []⟩, ⟨some ⟨wy.heap.size, 0, none⟩, 1, 1⟩, nilSv, nilSv⟩ : Tr)] 3 := ⟨slt_full o17 rfl (by decide), fun r hr => by
    simp only [List.mem_cons, List.not_mem_nil, or_false] at hr
    rcases hr with rfl | rfl | rfl
    ·exact OY0.out.below BX.out
    ·exact OY1.out.below BX.out
    ·exact ⟨hsu, slt_nil0 _ _, slt_nil0 _ _⟩, rfl⟩
   have HT := Lib.hid ht
   clear ht hsu o15 o17
   refine hK _ _ (fun _ => ⟨((BX.out).cell zT).trans KEEP0.1, ((BX.out).cell zT).trans KEEP0.2.1, ((BX.out).cell zT).trans KEEP0.2.2.1, ((BX.out).cell zT).trans KEEP0.2.2.2.1, ((BX.out).cell zT).trans KEEP0.2.2.2.2.1, ((BX.out).cell zT).trans KEEP0.2.2.2.2.2.1, ((BX.out).cell zu).trans KEEP0.2.2.2.2.2.2.1, ((BX.out).cell zu).trans KEEP0.2.2.2.2.2.2.2⟩) ?_
   clear hK K hHeld
   intro hH0
   have hHeld := hH0 (by kernel_rfl)
   clear hH0
   (intro hN; clear hClo; have hClo := hN; clear hN)
   try simp only [Act.put, List.setIfInBounds_toArray, List.set_cons_zero, List.set_cons_succ]
   have FW := Lib.hid (show ∀ r ∈ ([(⟨⟨[], [⟨1, 4, 1, 1, 10⟩], []⟩, ⟨pu0, nu0, cu0⟩, ⟨some ⟨bg, og, none⟩, 1, cg0⟩, ⟨pa0, na0, ca0⟩⟩ : Tr), (⟨⟨[⟨1, 4, 0, 1⟩], [], [⟨3, 6, 0⟩]⟩, ⟨some ⟨bu, ou, none⟩, 1, cu1⟩, ⟨pg1, ng1, cg1⟩, ⟨pa1, na1, ca1⟩⟩ : Tr), (⟨⟨[⟨1, 4, 0, 0⟩], [], []⟩, ⟨some ⟨wy.heap.size, 0, none⟩, 1, 1⟩, nilSv, nilSv⟩ : Tr)] : List Tr), r.t.us.length ≤ 70 ∧ r.t.gs.length ≤ 70 from fun r hr => by
    simp only [List.mem_cons, List.not_mem_nil, or_false] at hr
    rcases hr with rfl | rfl | rfl <;> exact ⟨by simp, by simp⟩)
   have SM := Lib.hid (show ∀ r ∈ ([(⟨⟨[], [⟨1, 4, 1, 1, 10⟩], []⟩, ⟨pu0, nu0, cu0⟩, ⟨some ⟨bg, og, none⟩, 1, cg0⟩, ⟨pa0, na0, ca0⟩⟩ : Tr), (⟨⟨[⟨1, 4, 0, 1⟩], [], [⟨3, 6, 0⟩]⟩, ⟨some ⟨bu, ou, none⟩, 1, cu1⟩, ⟨pg1, ng1, cg1⟩, ⟨pa1, na1, ca1⟩⟩ : Tr), (⟨⟨[⟨1, 4, 0, 0⟩], [], []⟩, ⟨some ⟨wy.heap.size, 0, none⟩, 1, 1⟩, nilSv, nilSv⟩ : Tr)] : List Tr), (∀ u ∈ r.t.us, smalC u.s u.o) ∧ ∀ g ∈ r.t.gs, smalC g.s g.o from fun r hr => by
    simp only [List.mem_cons, List.not_mem_nil, or_false] at hr
    rcases hr with rfl | rfl | rfl
    ·exact ⟨fun u hu => by simp at hu, fun g hg => by simp only [List.mem_singleton] at hg; subst hg; exact sm14⟩
    ·exact ⟨fun u hu => by simp only [List.mem_singleton] at hu; subst hu; exact sm14, fun g hg => by simp at hg⟩
    ·exact ⟨fun u hu => by simp only [List.mem_singleton] at hu; subst hu; exact sm14, fun g hg => by simp at hg⟩)
   refine wpS_one (i := 18) (by kernel_rfl) rfl hClo (fun K hK => ?_)
   rw [if_pos (by rfl)]
   go_simp
   refine ⟨trivial, callsIn_wide.2 ((cls_any (.slice p3 3 3) (.slice (some ⟨wy.heap.size + 1, 0, none⟩) 3 3) hs3 [(⟨⟨[], [⟨1, 4, 1, 1, 10⟩], []⟩, ⟨pu0, nu0, cu0⟩, ⟨some ⟨bg, og, none⟩, 1, cg0⟩, ⟨pa0, na0, ca0⟩⟩ : Tr), (⟨⟨[⟨1, 4, 0, 1⟩], [], [⟨3, 6, 0⟩]⟩, ⟨some ⟨bu, ou, none⟩, 1, cu1⟩, ⟨pg1, ng1, cg1⟩, ⟨pa1, na1, ca1⟩⟩ : Tr), (⟨⟨[⟨1, 4, 0, 0⟩], [], []⟩, ⟨some ⟨wy.heap.size, 0, none⟩, 1, 1⟩, nilSv, nilSv⟩ : Tr)] 3 3 _ (H3.out.below BX.out) HT.out (by omega) FW.out SM.out).mono ?_)⟩
   rintro e wv ⟨v, rfl, hv, hb⟩
   rw [HM3.out] at hv
   have hv2 : SlT c5L wv v [⟨1, 4, 0, 1, 2⟩] := by rw [← st7_cls]; exact hv
   obtain ⟨pc, cc, rfl, _, _, _⟩ := SlT.form (L := c5L) 1 hv2 rfl
   have HV := Lib.hid hv2
   have BF := Lib.hid (belowTo BX.out hb BX.out.size)
   clear hv hv2 hb
   refine hK _ _ (fun _ => ⟨((BF.out).cell zT).trans KEEP0.1, ((BF.out).cell zT).trans KEEP0.2.1, ((BF.out).cell zT).trans KEEP0.2.2.1, ((BF.out).cell zT).trans KEEP0.2.2.2.1, ((BF.out).cell zT).trans KEEP0.2.2.2.2.1, ((BF.out).cell zT).trans KEEP0.2.2.2.2.2.1, ((BF.out).cell zu).trans KEEP0.2.2.2.2.2.2.1, ((BF.out).cell zu).trans KEEP0.2.2.2.2.2.2.2⟩) ?_
   clear hK K hHeld
   intro hH0
   have hHeld := hH0 (by kernel_rfl)
   clear hH0
   (intro hN; clear hClo; have hClo := hN; clear hN)
   try simp only [Act.put, List.setIfInBounds_toArray, List.set_cons_zero, List.set_cons_succ]
   refine tS 19 4 ?_
   clear hClo
   intro hClo
   refine wpS_done (by kernel_rfl) ?_ _
   clear hClo
   clear hHeld
   gi_wp2
   go_upto_region 11 with fail
   obtain ⟨x0, x1, x2, x3, x4, x5, x6, x7⟩ := (show _ ∧ _ ∧ _ ∧ _ ∧ _ ∧ _ ∧ _ ∧ _ from ⟨((BF.out).cell zT).trans KEEP0.1, ((BF.out).cell zT).trans KEEP0.2.1, ((BF.out).cell zT).trans KEEP0.2.2.1, ((BF.out).cell zT).trans KEEP0.2.2.2.1, ((BF.out).cell zT).trans KEEP0.2.2.2.2.1, ((BF.out).cell zT).trans KEEP0.2.2.2.2.2.1, ((BF.out).cell zu).trans KEEP0.2.2.2.2.2.2.1, ((BF.out).cell zu).trans KEEP0.2.2.2.2.2.2.2⟩)
   obtain ⟨c, bc, oc, hcc, rfl, _, zc, cs⟩ := SlT.at HV.out (Below.refl _ _) (i := 0) Nat.one_pos
   obtain rfl := Option.some.inj hcc
   have y0 := cs 0 _ rfl
   have y1 := cs 1 _ rfl
   have y2 := cs 2 _ rfl
   have y3 := cs 3 _ rfl
   have y4 := cs 4 _ rfl
   simp only [Nat.zero_mul, Nat.add_zero] at y0 y1 y2 y3 y4
   clear cs hcc
   go_quiet (fail)
   go_wp2_with fail
   go_ret
   exact ⟨rfl, belowN (BY.out.trans (BF.out.mono BY.out.size))⟩
end Go.Proofs.YtmopiifamopidaaGreat
end
