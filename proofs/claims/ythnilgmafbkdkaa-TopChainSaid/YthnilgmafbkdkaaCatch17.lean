/- All nodes catch each other (w17Catch). -/
import Derived.Test.YthnilgmafbkdkaaPlainChain
import Derived.Test.YthnilgmafbkdkaaTells17
import Derived.Test.YthnilgmafbkdkaaSlt
import Derived.WalkKit
import Derived.Deep.RegionHeld3
namespace Go.Proofs.Ythnilgmafbkdkaa
open Go.RowKit

def Stt.cells (s : Stt) : List Value := [.bool s.sy, .int .i64 s.l, .int .i64 s.h, .int .i64 s.a, .int .i64 s.k, .int .i64 s.src, .int .i64 s.he]
def stL : Lay Stt := ⟨Stt.cells, 7, by decide, fun _ => rfl, fun a u h => by simp only [Stt.cells, List.mem_cons, List.not_mem_nil, or_false] at h; rcases h with rfl | rfl | rfl | rfl | rfl | rfl | rfl <;> rfl⟩
def Ck.cells (c : Ck) : List Value := [.int .i64 c.o, .int .i64 c.d]
def ckL : Lay Ck := ⟨Ck.cells, 2, by decide, fun _ => rfl, fun a u h => by simp only [Ck.cells, List.mem_cons, List.not_mem_nil, or_false] at h; rcases h with rfl | rfl <;> rfl⟩
theorem SlT.at7 {w w' : World} {p : Option Addr} {n cap : Nat} {ls : List Stt} (h : SlT stL w (.slice p n cap) ls) (bel : Below w.heap.size w w') {i : Nat} (hi : i < ls.length) :
    ∃ a b off, ls[i]? = some a ∧ p = some ⟨b, off, none⟩ ∧ b < w'.heap.size ∧ b < w.heap.size ∧ w'.cell? ⟨b, off + i * 7, none⟩ = some (.bool a.sy) ∧ w'.cell? ⟨b, off + i * 7 + 1, none⟩ = some (.int .i64 a.l) ∧ w'.cell? ⟨b, off + i * 7 + 2, none⟩ = some (.int .i64 a.h) ∧ w'.cell? ⟨b, off + i * 7 + 3, none⟩ = some (.int .i64 a.a) ∧ w'.cell? ⟨b, off + i * 7 + 4, none⟩ = some (.int .i64 a.k) ∧ w'.cell? ⟨b, off + i * 7 + 5, none⟩ = some (.int .i64 a.src) ∧ w'.cell? ⟨b, off + i * 7 + 6, none⟩ = some (.int .i64 a.he) := by
  obtain ⟨a, b, off, h1, h2, h3, h4, h5⟩ := h.at bel hi
  exact ⟨a, b, off, h1, h2, h3, h4, h5 0 _ rfl, h5 1 _ rfl, h5 2 _ rfl, h5 3 _ rfl, h5 4 _ rfl, h5 5 _ rfl, h5 6 _ rfl⟩
theorem SlT.at2 {w w' : World} {p : Option Addr} {n cap : Nat} {ls : List Ck} (h : SlT ckL w (.slice p n cap) ls) (bel : Below w.heap.size w w') {i : Nat} (hi : i < ls.length) :
    ∃ a b off, ls[i]? = some a ∧ p = some ⟨b, off, none⟩ ∧ b < w'.heap.size ∧ b < w.heap.size ∧ w'.cell? ⟨b, off + i * 2, none⟩ = some (.int .i64 a.o) ∧ w'.cell? ⟨b, off + i * 2 + 1, none⟩ = some (.int .i64 a.d) := by
  obtain ⟨a, b, off, h1, h2, h3, h4, h5⟩ := h.at bel hi
  exact ⟨a, b, off, h1, h2, h3, h4, h5 0 _ rfl, h5 1 _ rfl⟩
theorem cell_newT {w : World} {b o : Nat} {O : Obj} (h : b < w.heap.size) : (w.alloc O).cell? ⟨b, o, none⟩ = w.cell? ⟨b, o, none⟩ := (belowNew w O).cell (p := ⟨b, o, none⟩) h
theorem cell_setT {w : World} {b o n i : Nat} {v : Value} (h : b < n) : (w.setCell ⟨n, i, none⟩ v).cell? ⟨b, o, none⟩ = w.cell? ⟨b, o, none⟩ := ((Below.refl n w).setCell (p := ⟨n, i, none⟩) (Nat.le_refl _) v).cell (p := ⟨b, o, none⟩) h
theorem own_lastT {w w' : World} {cs : Array Value} {t : TypeId} (hb : Below (w.alloc (.cells cs t)).drew.heap.size (w.alloc (.cells cs t)).drew w') : Own w' w.heap.size cs.toList t := ((own_new w cs t).drew).below hb
theorem size_newT {w : World} {b : Nat} {O : Obj} (h : b < w.heap.size) : b < (w.alloc O).heap.size := Nat.lt_of_lt_of_le h (belowNew w O).size

set_option linter.unusedVariables false in
set_option maxRecDepth 100000 in
set_option maxHeartbeats 2000000 in
theorem catch_any (v u : Value) (ls : List Stt) (cs : List Ck) (asn T : Int) (w : World) (sl : SlT stL w v ls) (sc : SlT ckL w u cs) (hlen : ls.length = cs.length) (hg : ∀ i s c, ls[i]? = some s → cs[i]? = some c → GdI i s c T) (hT : T ≤ 10000000000000) :
    Calls Try.prog 10 #[v, u, .int .i64 asn] w fun e w' => e = .returned (.bool true) ∧ Below w.heap.size w w' := by
  obtain ⟨p, cap, e0, hlc, hcm, hpn⟩ := sl.form ls.length rfl
  subst e0
  obtain ⟨p2, cap2, e0, hlc2, hcm2, hpn2⟩ := sc.form ls.length hlen.symm
  subst e0
  have SL := Lib.hid sl
  have SC := Lib.hid sc
  have HLEN := Lib.hid hlen
  have HG := Lib.hid hg
  unfold maxLen at hcm hcm2
  clear hpn hpn2 sl sc hlen hg
  go_enter Try.func10, Try.ntmps10
  go_wp2
  go_loopw [7] (fun ii wr => ∃ (i : Nat), i ≤ ls.length ∧ ii = .int .i64 i ∧ Below w.heap.size w wr) (fun i _ => ls.length - (intOf i).toNat)
  case atStart => exact ⟨0, by omega, rfl, Below.refl _ _⟩
  case round =>
    obtain ⟨i, hi, rfl, bel⟩ := hrel
    by_cases hlt : i < ls.length
    · obtain ⟨s, b, off, hs, e1, zb, _, d0, d1, d2, d3, d4, d5, d6⟩ := SL.out.at7 bel (i := i) hlt
      cases e1
      obtain ⟨c, b2, off2, hc, e2, zb2, _, dc0, dc1⟩ := SC.out.at2 bel (i := i) (by rw [← HLEN.out]; exact hlt)
      cases e2
      have j0 : (0 : Int) ≤ (i : Int) := Int.natCast_nonneg _
      have j1 : (i : Int) < (ls.length : Int) := by omega
      have GI := Lib.hid (HG.out i s c hs hc)
      obtain ⟨N, hN⟩ : ∃ N, gsN s.sy s.l s.h s.a s.k s.src s.he c.o c.d asn = N := ⟨_, rfl⟩
      obtain ⟨E, hE⟩ : ∃ E, gsE s.sy s.l s.h s.a s.k s.src s.he c.o c.d asn = E := ⟨_, rfl⟩
      have HS := Lib.hid (And.intro hN hE)
      clear hs hc hN hE
      go_wp2_with fail
      have pd0 := fun x : Past wr => past_cell x d0 zb
      have pd1 := fun x : Past wr => past_cell x d1 zb
      have pd2 := fun x : Past wr => past_cell x d2 zb
      have pd3 := fun x : Past wr => past_cell x d3 zb
      have pd4 := fun x : Past wr => past_cell x d4 zb
      have pd5 := fun x : Past wr => past_cell x d5 zb
      have pd6 := fun x : Past wr => past_cell x d6 zb
      have pc0 := fun x : Past wr => past_cell x dc0 zb2
      have pc1 := fun x : Past wr => past_cell x dc1 zb2
      refine wp_region_past (by kernel_rfl) (by kernel_rfl) ?_
      repeat (go_big_quiet_step ((first | (go_at_call 6; exact calls_past (send_lit s.sy s.l s.h s.a s.k s.src s.he c.o c.d asn N E _ HS.out)))))
      refine wpQuiet_nil ?_
      rintro _ ⟨x, rfl⟩
      replace bel : Below w.heap.size w (past wr x) := bel.trans (x.h.mono bel.size)
      clear pd0 pd1 pd2 pd3 pd4 pd5 pd6 pc0 pc1 d0 d1 d2 d3 d4 d5 d6 dc0 dc1 zb zb2
      generalize past wr x = w1 at bel ⊢
      go_wp2_with fail
      have B1 := Lib.hid bel
      go_loopw [10] (fun kk wq => ∃ (k : Nat), k ≤ ls.length ∧ kk = .int .i64 k ∧ Below w.heap.size w wq) (fun k _ => ls.length - (intOf k).toNat)
      case atStart => exact ⟨0, by omega, rfl, bel⟩
      case round =>
        clear bel
        obtain ⟨k, hk, rfl, bel⟩ := hrel
        by_cases hlk : k < ls.length
        · cases hE0 : (E == 0) with
          | false =>
            go_wp2_with fail
            go_roundw
            case rel => exact ⟨i + 1, by omega, by go_num, bel⟩
            case measure => simp [intOf]; omega
          | true =>
            obtain ⟨s2, b3, off3, hs2, e1, z3, y3, q0, q1, q2, q3, q4, q5, q6⟩ := SL.out.at7 (Below.refl _ _) (i := k) hlk
            cases e1
            obtain ⟨c2, b4, off4, hc2, e2, z4, y4, q7, q8⟩ := SC.out.at2 (Below.refl _ _) (i := k) (by rw [← HLEN.out]; exact hlk)
            cases e2
            have k0 : (0 : Int) ≤ (k : Int) := Int.natCast_nonneg _
            have k1 : (k : Int) < (ls.length : Int) := by omega
            obtain ⟨L, hL⟩ : ∃ L, lsL s2.sy s2.l s2.h s2.a s2.k s2.src s2.he c2.o c2.d asn = L := ⟨_, rfl⟩
            obtain ⟨H, hH⟩ : ∃ H, lsH s2.sy s2.l s2.h s2.a s2.k s2.src s2.he c2.o c2.d asn = H := ⟨_, rfl⟩
            obtain ⟨E2, hE2⟩ : ∃ E2, gsE s2.sy s2.l s2.h s2.a s2.k s2.src s2.he c2.o c2.d asn = E2 := ⟨_, rfl⟩
            have HS2 := Lib.hid (And.intro hL (And.intro hH hE2))
            have HC := Lib.hid (show E2 = 0 → catB N L H = true by
              intro h2
              have e1 : gsE s.sy s.l s.h s.a s.k s.src s.he c.o c.d asn = 0 := by rw [HS.out.2]; simpa using hE0
              have e2 : gsE s2.sy s2.l s2.h s2.a s2.k s2.src s2.he c2.o c2.d asn = 0 := by rw [hE2, h2]
              have := gd_catch GI.out (HG.out k s2 c2 hs2 hc2) hT e1 e2
              rw [HS.out.1] at this
              rw [catB_iff, ← hL, ← hH, lsL, lsH, if_pos e2, if_pos e2]
              exact this)
            have QC := Lib.hid (And.intro q0 (And.intro q1 (And.intro q2 (And.intro q3 (And.intro q4 (And.intro q5 (And.intro q6 (And.intro q7 q8))))))))
            have HB3 := Lib.hid (And.intro y3 y4)
            clear hs2 hc2 hL hH hE2 z3 z4 q0 q1 q2 q3 q4 q5 q6 q7 q8 y3 y4
            have HE0 := Lib.hid hE0
            have BE := Lib.hid bel
            have g0 : World.cell? wr ⟨b, off + k * 7, none⟩ = some (.bool s2.sy) := (BE.out.cell (p := ⟨b, off + k * 7, none⟩) HB3.out.1).trans QC.out.1
            have g1 : World.cell? wr ⟨b, off + k * 7 + 1, none⟩ = some (.int .i64 s2.l) := (BE.out.cell (p := ⟨b, off + k * 7 + 1, none⟩) HB3.out.1).trans QC.out.2.1
            have g2 : World.cell? wr ⟨b, off + k * 7 + 2, none⟩ = some (.int .i64 s2.h) := (BE.out.cell (p := ⟨b, off + k * 7 + 2, none⟩) HB3.out.1).trans QC.out.2.2.1
            have g3 : World.cell? wr ⟨b, off + k * 7 + 3, none⟩ = some (.int .i64 s2.a) := (BE.out.cell (p := ⟨b, off + k * 7 + 3, none⟩) HB3.out.1).trans QC.out.2.2.2.1
            have g4 : World.cell? wr ⟨b, off + k * 7 + 4, none⟩ = some (.int .i64 s2.k) := (BE.out.cell (p := ⟨b, off + k * 7 + 4, none⟩) HB3.out.1).trans QC.out.2.2.2.2.1
            have g5 : World.cell? wr ⟨b, off + k * 7 + 5, none⟩ = some (.int .i64 s2.src) := (BE.out.cell (p := ⟨b, off + k * 7 + 5, none⟩) HB3.out.1).trans QC.out.2.2.2.2.2.1
            have g6 : World.cell? wr ⟨b, off + k * 7 + 6, none⟩ = some (.int .i64 s2.he) := (BE.out.cell (p := ⟨b, off + k * 7 + 6, none⟩) HB3.out.1).trans QC.out.2.2.2.2.2.2.1
            have g7 : World.cell? wr ⟨b2, off2 + k * 2, none⟩ = some (.int .i64 c2.o) := (BE.out.cell (p := ⟨b2, off2 + k * 2, none⟩) HB3.out.2).trans QC.out.2.2.2.2.2.2.2.1
            have g8 : World.cell? wr ⟨b2, off2 + k * 2 + 1, none⟩ = some (.int .i64 c2.d) := (BE.out.cell (p := ⟨b2, off2 + k * 2 + 1, none⟩) HB3.out.2).trans QC.out.2.2.2.2.2.2.2.2
            go_wp2_with fail
            have BEd := Lib.hid bel.drew
            have d0 : World.cell? wr.drew ⟨b, off + k * 7, none⟩ = some (.bool s2.sy) := (BEd.out.cell (p := ⟨b, off + k * 7, none⟩) HB3.out.1).trans QC.out.1
            have d1 : World.cell? wr.drew ⟨b, off + k * 7 + 1, none⟩ = some (.int .i64 s2.l) := (BEd.out.cell (p := ⟨b, off + k * 7 + 1, none⟩) HB3.out.1).trans QC.out.2.1
            have d2 : World.cell? wr.drew ⟨b, off + k * 7 + 2, none⟩ = some (.int .i64 s2.h) := (BEd.out.cell (p := ⟨b, off + k * 7 + 2, none⟩) HB3.out.1).trans QC.out.2.2.1
            have d3 : World.cell? wr.drew ⟨b, off + k * 7 + 3, none⟩ = some (.int .i64 s2.a) := (BEd.out.cell (p := ⟨b, off + k * 7 + 3, none⟩) HB3.out.1).trans QC.out.2.2.2.1
            have d4 : World.cell? wr.drew ⟨b, off + k * 7 + 4, none⟩ = some (.int .i64 s2.k) := (BEd.out.cell (p := ⟨b, off + k * 7 + 4, none⟩) HB3.out.1).trans QC.out.2.2.2.2.1
            have d5 : World.cell? wr.drew ⟨b, off + k * 7 + 5, none⟩ = some (.int .i64 s2.src) := (BEd.out.cell (p := ⟨b, off + k * 7 + 5, none⟩) HB3.out.1).trans QC.out.2.2.2.2.2.1
            have d6 : World.cell? wr.drew ⟨b, off + k * 7 + 6, none⟩ = some (.int .i64 s2.he) := (BEd.out.cell (p := ⟨b, off + k * 7 + 6, none⟩) HB3.out.1).trans QC.out.2.2.2.2.2.2.1
            have d7 : World.cell? wr.drew ⟨b2, off2 + k * 2, none⟩ = some (.int .i64 c2.o) := (BEd.out.cell (p := ⟨b2, off2 + k * 2, none⟩) HB3.out.2).trans QC.out.2.2.2.2.2.2.2.1
            have d8 : World.cell? wr.drew ⟨b2, off2 + k * 2 + 1, none⟩ = some (.int .i64 c2.d) := (BEd.out.cell (p := ⟨b2, off2 + k * 2 + 1, none⟩) HB3.out.2).trans QC.out.2.2.2.2.2.2.2.2
            have zd3 : b < wr.drew.heap.size := Nat.lt_of_lt_of_le HB3.out.1 BEd.out.size
            have zd4 : b2 < wr.drew.heap.size := Nat.lt_of_lt_of_le HB3.out.2 BEd.out.size
            clear g0 g1 g2 g3 g4 g5 g6 g7 g8
            go_region_held3 (fun w' => w'.cell? ⟨b, off + k * 7, none⟩ = some (.bool s2.sy) ∧ w'.cell? ⟨b, off + k * 7 + 1, none⟩ = some (.int .i64 s2.l) ∧ w'.cell? ⟨b, off + k * 7 + 2, none⟩ = some (.int .i64 s2.h) ∧ w'.cell? ⟨b, off + k * 7 + 3, none⟩ = some (.int .i64 s2.a) ∧ w'.cell? ⟨b, off + k * 7 + 4, none⟩ = some (.int .i64 s2.k) ∧ w'.cell? ⟨b, off + k * 7 + 5, none⟩ = some (.int .i64 s2.src) ∧ w'.cell? ⟨b, off + k * 7 + 6, none⟩ = some (.int .i64 s2.he) ∧ w'.cell? ⟨b2, off2 + k * 2, none⟩ = some (.int .i64 c2.o) ∧ w'.cell? ⟨b2, off2 + k * 2 + 1, none⟩ = some (.int .i64 c2.d) ∧ b < w'.heap.size ∧ b2 < w'.heap.size)
              (((try dsimp only); (repeat' apply And.intro) <;> first | assumption | (rw [cell_newT (by assumption)]; assumption) | (change (World.alloc _ _).cell? _ = _; rw [cell_newT (by assumption)]; assumption) | exact size_newT (by assumption) | ((repeat rw [cell_setT (by first | assumption | (simp; omega) | omega)]); first | assumption | (rw [cell_newT (by assumption)]; assumption)) | (simp; omega)))
              (first | (go_at_call 19; refine (listen_lit s2.sy s2.l s2.h s2.a s2.k s2.src s2.he c2.o c2.d asn L H E2 _ HS2.out).mono ?_; rintro e w9 ⟨rfl, hb⟩; have BE9 := Lib.hid (by first | exact belowTo BEd.out hb BEd.out.size | exact belowTo (bel.alloc bel.size _).drew hb (by have := bel.size; simp; omega) : Below w.heap.size w w9); have g0 : World.cell? w9 ⟨b, off + k * 7, none⟩ = some (.bool s2.sy) := (BE9.out.cell (p := ⟨b, off + k * 7, none⟩) HB3.out.1).trans QC.out.1; have g1 : World.cell? w9 ⟨b, off + k * 7 + 1, none⟩ = some (.int .i64 s2.l) := (BE9.out.cell (p := ⟨b, off + k * 7 + 1, none⟩) HB3.out.1).trans QC.out.2.1; have g2 : World.cell? w9 ⟨b, off + k * 7 + 2, none⟩ = some (.int .i64 s2.h) := (BE9.out.cell (p := ⟨b, off + k * 7 + 2, none⟩) HB3.out.1).trans QC.out.2.2.1; have g3 : World.cell? w9 ⟨b, off + k * 7 + 3, none⟩ = some (.int .i64 s2.a) := (BE9.out.cell (p := ⟨b, off + k * 7 + 3, none⟩) HB3.out.1).trans QC.out.2.2.2.1; have g4 : World.cell? w9 ⟨b, off + k * 7 + 4, none⟩ = some (.int .i64 s2.k) := (BE9.out.cell (p := ⟨b, off + k * 7 + 4, none⟩) HB3.out.1).trans QC.out.2.2.2.2.1; have g5 : World.cell? w9 ⟨b, off + k * 7 + 5, none⟩ = some (.int .i64 s2.src) := (BE9.out.cell (p := ⟨b, off + k * 7 + 5, none⟩) HB3.out.1).trans QC.out.2.2.2.2.2.1; have g6 : World.cell? w9 ⟨b, off + k * 7 + 6, none⟩ = some (.int .i64 s2.he) := (BE9.out.cell (p := ⟨b, off + k * 7 + 6, none⟩) HB3.out.1).trans QC.out.2.2.2.2.2.2.1; have g7 : World.cell? w9 ⟨b2, off2 + k * 2, none⟩ = some (.int .i64 c2.o) := (BE9.out.cell (p := ⟨b2, off2 + k * 2, none⟩) HB3.out.2).trans QC.out.2.2.2.2.2.2.2.1; have g8 : World.cell? w9 ⟨b2, off2 + k * 2 + 1, none⟩ = some (.int .i64 c2.d) := (BE9.out.cell (p := ⟨b2, off2 + k * 2 + 1, none⟩) HB3.out.2).trans QC.out.2.2.2.2.2.2.2.2; have y3 : b < w9.heap.size := Nat.lt_of_lt_of_le HB3.out.1 BE9.out.size; have y4 : b2 < w9.heap.size := Nat.lt_of_lt_of_le HB3.out.2 BE9.out.size; (try (have hN9 := own_lastT hb; obtain ⟨cN0, cN1, fN, zN⟩ := own2 hN9)); clear hb))
            all_goals (cases hF : (E2 == 0))
            all_goals go_wp2_with (first | (go_at_call 20; refine (catches_lit N L H true _ (HC.out (by simpa using hF))).mono ?_; rintro e w10 ⟨rfl, hb⟩; have B10 := Lib.hid (by first | exact belowTo (BE9.out.alloc BE9.out.size _) hb (by have := BE9.out.size; simp; omega) | exact belowTo (belowSet (belowSet BE9.out _ _ _ (by have := bel.size; omega)) _ _ _ (by have := bel.size; omega)) hb (by have := BE9.out.size; simp; omega) : Below w.heap.size w w10); clear hb))
            all_goals go_roundw
            all_goals (first | exact ⟨k + 1, by omega, by go_num, B10.out⟩ | exact ⟨k + 1, by omega, by go_num, BE9.out.alloc BE9.out.size _⟩ | exact ⟨k + 1, by omega, by go_num, belowSet (belowSet BE9.out _ _ _ (by have := bel.size; omega)) _ _ _ (by have := bel.size; omega)⟩ | (simp [intOf]; omega))
        · go_wp2_with fail
          go_roundw
          case rel => exact ⟨i + 1, by omega, by go_num, bel⟩
          case measure => simp [intOf]; omega
    · go_wp2_with fail
      go_ret
      exact ⟨rfl, bel⟩

end Go.Proofs.Ythnilgmafbkdkaa
