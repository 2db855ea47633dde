/- BoundHearing: the walk of the law. It returns true for every input, and leaves old memory alone. -/
import Derived.Test.YtaodaglaflohbaaHead08
import Derived.Test.YtaodaglaflohbaaTruth08
import Derived.Test.YtaodaglaflohbaaPlain08d
import Derived.Deep.DeepCutAuto
import Derived.IntWalk
namespace Go.Proofs.Ytaodaglaflohbaa
open Go.RowKit
set_option linter.unusedVariables false

set_option maxRecDepth 100000 in
set_option maxHeartbeats 4000000 in
theorem boundHearing_no (o d n p q b s r t B : Int) (w : World) (un : 0 ≤ n ∧ n ≤ 4294967295) (up : 0 ≤ p ∧ p ≤ 65535) (uq : 0 ≤ q ∧ q ≤ 65535)
    (hb : p % 2001 = b) (hs : n % 1000000000 = s) (hr : q.tmod (2 * b + 1) = r) (ht : s * 10000 - b + r = t) (b1 : 0 ≤ b) (b2 : b ≤ 2000) (s1 : 0 ≤ s) (s2 : s ≤ 999999999) (r1 : 0 ≤ r) (r2 : r ≤ 2 * b)
    (hB : shN o d t = B ∧ shE o d t = 1) :
    Calls Try.prog 10 #[.agg #[.int .i64 o, .int .i64 d], .int .u32 n, .int .u16 p, .int .u16 q] w fun e w' => e = .returned (.bool true) ∧ Below w.heap.size w w' := by
  have HB := Lib.hid hb
  have HS := Lib.hid hs
  have HR := Lib.hid hr
  have HT0 := Lib.hid ht
  clear hb hs hr ht
  go_enter Try.func10, Try.ntmps10
  go_wp2_with fail
  refine (head_any _).mono ?_
  rintro e w1 ⟨rfl, hb⟩
  have oC : Own w1 w.heap.size [.int .i64 o, .int .i64 d] 41 := (own_at _ _ rfl).below hb
  have bel := belowTo ((Below.refl w.heap.size w).alloc (by simp) _) hb (by simp)
  clear hb 
  obtain ⟨cC0, cC1, fC, zC⟩ := own2 oC
  go_upto_region 2 with fail
  go_cut [10] (fun sk wx => sk = .pointer (some ⟨w1.heap.size, 0, none⟩) ∧ wx = w1.alloc (Obj.cells #[.int .i64 0, .int .i64 0, .int .i64 b, .int .i64 s, .int .i64 0] 25))
  case first =>
    go_wp2_with fail
    go_meet
    have q1 := HB.out
    have q2 := HS.out
    exact ⟨rfl, by rw [← q1, ← q2]⟩
  case rest =>
    obtain ⟨rfl, rfl⟩ := hcut
    have kb := bel.size
    have oK : Own (w1.alloc (Obj.cells #[.int .i64 0, .int .i64 0, .int .i64 b, .int .i64 s, .int .i64 0] 25)) w1.heap.size [.int .i64 0, .int .i64 0, .int .i64 b, .int .i64 s, .int .i64 0] 25 := own_at _ _ rfl
    replace oC := oC.alloc (Obj.cells #[.int .i64 0, .int .i64 0, .int .i64 b, .int .i64 s, .int .i64 0] 25)
    replace bel := bel.alloc bel.size (Obj.cells #[.int .i64 0, .int .i64 0, .int .i64 b, .int .i64 s, .int .i64 0] 25)
    clear cC0 cC1 fC zC
    generalize w1.alloc (Obj.cells #[.int .i64 0, .int .i64 0, .int .i64 b, .int .i64 s, .int .i64 0] 25) = wz at oC oK bel ⊢
    obtain ⟨cC0, cC1, fC, zC⟩ := own2 oC
    obtain ⟨cK0, cK1, cK2, cK3, cK4, fK, zK⟩ := own5 oK
    go_wp2_with fail
    have e1 : IntKind.i64.wrap (s * 10000) = s * 10000 := IntWalk.i64_in _ (by omega)
    have e2 : IntKind.i64.wrap (s * 10000 - b) = s * 10000 - b := IntWalk.i64_in _ (by omega)
    have e3 : IntKind.i64.wrap (2 * b) = 2 * b := IntWalk.i64_in _ (by omega)
    have e4 : IntKind.i64.wrap (2 * b + 1) = 2 * b + 1 := IntWalk.i64_in _ (by omega)
    have e5 : (2 * b + 1 == 0) = false := by simp; omega
    have e6 := HR.out
    have e7 : IntKind.i64.wrap (s * 10000 - b + r) = t := (IntWalk.i64_in _ (by omega)).trans HT0.out
    go_quiet (fail)
    clear e1 e2 e3 e4 e5 e6 e7
    replace oC := oC.drewN nq
    replace oK := oK.drewN nq
    replace bel := belowN (n := nq) bel
    clear cC0 cC1 fC zC cK0 cK1 cK2 cK3 cK4 fK zK
    generalize wz.drewN nq = wv at oC oK bel ⊢
    obtain ⟨cC0, cC1, fC, zC⟩ := own2 oC
    obtain ⟨cK0, cK1, cK2, cK3, cK4, fK, zK⟩ := own5 oK
    clear kb
    go_wp2_with fail
    refine (show_lit o d t B 1 _ hB).mono ?_
    rintro e w2 ⟨rfl, hb⟩
    replace oC := oC.below hb
    replace oK := oK.below hb
    replace bel := belowTo bel hb (by exact bel.size)
    clear hb cC0 cC1 fC zC cK0 cK1 cK2 cK3 cK4 fK zK
    obtain ⟨cC0, cC1, fC, zC⟩ := own2 oC
    obtain ⟨cK0, cK1, cK2, cK3, cK4, fK, zK⟩ := own5 oK
    go_wp2
    go_ret
    exact ⟨rfl, bel⟩

set_option maxRecDepth 100000 in
set_option maxHeartbeats 4000000 in
theorem boundHearing_yes (o d n p q b s r t B L H : Int) (w : World) (un : 0 ≤ n ∧ n ≤ 4294967295) (up : 0 ≤ p ∧ p ≤ 65535) (uq : 0 ≤ q ∧ q ≤ 65535)
    (hb : p % 2001 = b) (hs : n % 1000000000 = s) (hr : q.tmod (2 * b + 1) = r) (ht : s * 10000 - b + r = t) (b1 : 0 ≤ b) (b2 : b ≤ 2000) (s1 : 0 ≤ s) (s2 : s ≤ 999999999) (r1 : 0 ≤ r) (r2 : r ≤ 2 * b)
    (hB : shN o d t = B ∧ shE o d t = 0) (hh : heL s b B = L ∧ heH s b B = H ∧ heA s b B = B ∧ heE s b B = 0) (c1 : -30000000000000 ≤ t) (c2 : t ≤ 30000000000000) (c3 : -30000000000000 ≤ B) (c4 : B ≤ 30000000000000)
    (hk : truB L H B t B = true) (hw : widS L H B = 2 * b) :
    Calls Try.prog 10 #[.agg #[.int .i64 o, .int .i64 d], .int .u32 n, .int .u16 p, .int .u16 q] w fun e w' => e = .returned (.bool true) ∧ Below w.heap.size w w' := by
  have HB := Lib.hid hb
  have HS := Lib.hid hs
  have HR := Lib.hid hr
  have HT0 := Lib.hid ht
  clear hb hs hr ht
  go_enter Try.func10, Try.ntmps10
  go_wp2_with fail
  refine (head_any _).mono ?_
  rintro e w1 ⟨rfl, hb⟩
  have oC : Own w1 w.heap.size [.int .i64 o, .int .i64 d] 41 := (own_at _ _ rfl).below hb
  have bel := belowTo ((Below.refl w.heap.size w).alloc (by simp) _) hb (by simp)
  clear hb 
  obtain ⟨cC0, cC1, fC, zC⟩ := own2 oC
  go_upto_region 2 with fail
  go_cut [10] (fun sk wx => sk = .pointer (some ⟨w1.heap.size, 0, none⟩) ∧ wx = w1.alloc (Obj.cells #[.int .i64 0, .int .i64 0, .int .i64 b, .int .i64 s, .int .i64 0] 25))
  case first =>
    go_wp2_with fail
    go_meet
    have q1 := HB.out
    have q2 := HS.out
    exact ⟨rfl, by rw [← q1, ← q2]⟩
  case rest =>
    obtain ⟨rfl, rfl⟩ := hcut
    have kb := bel.size
    have oK : Own (w1.alloc (Obj.cells #[.int .i64 0, .int .i64 0, .int .i64 b, .int .i64 s, .int .i64 0] 25)) w1.heap.size [.int .i64 0, .int .i64 0, .int .i64 b, .int .i64 s, .int .i64 0] 25 := own_at _ _ rfl
    replace oC := oC.alloc (Obj.cells #[.int .i64 0, .int .i64 0, .int .i64 b, .int .i64 s, .int .i64 0] 25)
    replace bel := bel.alloc bel.size (Obj.cells #[.int .i64 0, .int .i64 0, .int .i64 b, .int .i64 s, .int .i64 0] 25)
    clear cC0 cC1 fC zC
    generalize w1.alloc (Obj.cells #[.int .i64 0, .int .i64 0, .int .i64 b, .int .i64 s, .int .i64 0] 25) = wz at oC oK bel ⊢
    obtain ⟨cC0, cC1, fC, zC⟩ := own2 oC
    obtain ⟨cK0, cK1, cK2, cK3, cK4, fK, zK⟩ := own5 oK
    go_wp2_with fail
    have e1 : IntKind.i64.wrap (s * 10000) = s * 10000 := IntWalk.i64_in _ (by omega)
    have e2 : IntKind.i64.wrap (s * 10000 - b) = s * 10000 - b := IntWalk.i64_in _ (by omega)
    have e3 : IntKind.i64.wrap (2 * b) = 2 * b := IntWalk.i64_in _ (by omega)
    have e4 : IntKind.i64.wrap (2 * b + 1) = 2 * b + 1 := IntWalk.i64_in _ (by omega)
    have e5 : (2 * b + 1 == 0) = false := by simp; omega
    have e6 := HR.out
    have e7 : IntKind.i64.wrap (s * 10000 - b + r) = t := (IntWalk.i64_in _ (by omega)).trans HT0.out
    go_quiet (fail)
    clear e1 e2 e3 e4 e5 e6 e7
    replace oC := oC.drewN nq
    replace oK := oK.drewN nq
    replace bel := belowN (n := nq) bel
    clear cC0 cC1 fC zC cK0 cK1 cK2 cK3 cK4 fK zK
    generalize wz.drewN nq = wv at oC oK bel ⊢
    obtain ⟨cC0, cC1, fC, zC⟩ := own2 oC
    obtain ⟨cK0, cK1, cK2, cK3, cK4, fK, zK⟩ := own5 oK
    go_wp2_with fail
    refine (show_lit o d t B 0 _ hB).mono ?_
    rintro e w2 ⟨rfl, hb⟩
    clear oC cC0 cC1 fC zC
    replace oK := oK.below hb
    replace bel := belowTo bel hb (by exact bel.size)
    clear hb cK0 cK1 cK2 cK3 cK4 fK zK
    obtain ⟨cK0, cK1, cK2, cK3, cK4, fK, zK⟩ := own5 oK
    go_wp2_with fail
    replace oK := oK.set 4 (.int .i64 B)
    replace bel := bel.setCell (p := ⟨w1.heap.size, 4, none⟩) kb (.int .i64 B)
    clear cK0 cK1 cK2 cK3 cK4 fK zK
    change Own _ _ [.int .i64 0, .int .i64 0, .int .i64 b, .int .i64 s, .int .i64 B] _ at oK
    generalize w2.setCell ⟨w1.heap.size, 4, none⟩ (.int .i64 B) = w2q at oK bel ⊢
    obtain ⟨cK0, cK1, cK2, cK3, cK4, fK, zK⟩ := own5 oK
    
    refine (heard_lit 0 0 b s B L H B 0 _ hh).mono ?_
    rintro e w3 ⟨rfl, hb⟩
    replace oK := oK.below hb
    replace bel := belowTo bel hb (by exact bel.size)
    clear hb cK0 cK1 cK2 cK3 cK4 fK zK
    obtain ⟨cK0, cK1, cK2, cK3, cK4, fK, zK⟩ := own5 oK
    go_wp2_with fail
    have oX : Own (w3.alloc (Obj.cells #[Value.int IntKind.i64 L, Value.int IntKind.i64 H, Value.int IntKind.i64 B] 23)) w3.heap.size [.int .i64 L, .int .i64 H, .int .i64 B] 23 := own_at _ _ rfl
    replace oK := oK.alloc (Obj.cells #[Value.int IntKind.i64 L, Value.int IntKind.i64 H, Value.int IntKind.i64 B] 23)
    replace bel := bel.alloc bel.size (Obj.cells #[Value.int IntKind.i64 L, Value.int IntKind.i64 H, Value.int IntKind.i64 B] 23)
    clear cK0 cK1 cK2 cK3 cK4 fK zK
    generalize w3.alloc (Obj.cells #[Value.int IntKind.i64 L, Value.int IntKind.i64 H, Value.int IntKind.i64 B] 23) = wy at oK oX bel ⊢
    have pK2 := fun x : Past wy => (oK.past x).cell (i := 2) rfl
    have pX0 := fun x : Past wy => (oX.past x).cell (i := 0) rfl
    have pX1 := fun x : Past wy => (oX.past x).cell (i := 1) rfl
    have pX2 := fun x : Past wy => (oX.past x).cell (i := 2) rfl
    have e3 : IntKind.i64.wrap (2 * b) = 2 * b := IntWalk.i64_in _ (by omega)
    refine wp_region_past (by kernel_rfl) (by kernel_rfl) ?_
    repeat (go_big_quiet_step ((first | (go_at_call 26; exact calls_past (true_lit L H B t B true _ c1 c2 c3 c4 hk)) | (go_at_call 20; exact calls_past (bwidth_lit L H B (2 * b) _ hw)))))
    refine wpQuiet_nil ?_
    rintro _ ⟨x, rfl⟩
    have bel2 := bel.trans (x.h.mono bel.size)
    clear e3
    go_wp2
    go_ret
    exact ⟨rfl, bel2⟩

theorem boundHearing_walk (o d n p q : Int) (w : World) (_1 : IntKind.i64.has o) (_2 : IntKind.i64.has d) (_3 : IntKind.u32.has n) (_4 : IntKind.u16.has p) (_5 : IntKind.u16.has q) :
    Calls Try.prog 10 #[.agg #[.int .i64 o, .int .i64 d], .int .u32 n, .int .u16 p, .int .u16 q] w fun e w' => e = .returned (.bool true) ∧ Below w.heap.size w w' := by
  have un : 0 ≤ n ∧ n ≤ 4294967295 := by simpa [IntKind.has, IntKind.min, IntKind.max, IntKind.signed, IntKind.bits] using _3
  have up : 0 ≤ p ∧ p ≤ 65535 := by simpa [IntKind.has, IntKind.min, IntKind.max, IntKind.signed, IntKind.bits] using _4
  have uq : 0 ≤ q ∧ q ≤ 65535 := by simpa [IntKind.has, IntKind.min, IntKind.max, IntKind.signed, IntKind.bits] using _5
  obtain ⟨b, hb⟩ : ∃ b, p % 2001 = b := ⟨_, rfl⟩
  obtain ⟨s, hs⟩ : ∃ s, n % 1000000000 = s := ⟨_, rfl⟩
  obtain ⟨r, hr⟩ : ∃ r, q.tmod (2 * b + 1) = r := ⟨_, rfl⟩
  obtain ⟨t, ht⟩ : ∃ t, s * 10000 - b + r = t := ⟨_, rfl⟩
  have r1 : 0 ≤ r := by rw [← hr]; exact Int.tmod_nonneg _ uq.1
  have r2 : r ≤ 2 * b := by
    have := Int.tmod_lt_of_pos q (show 0 < 2 * b + 1 by omega)
    omega
  cases hx : okS o d t with
  | true =>
    obtain ⟨⟨g1, g2, g3, g4⟩, g5, g6⟩ := okS_iff.1 hx
    have hbd := at_bd (o := o) (d := d) g1 g2 g3 g4 (show -1 ≤ t by omega) (by omega)
    obtain ⟨v, k1, k2⟩ := true_heard (asn := s) (b := b) (t := t) (s := atI o d t) (by omega) (by omega) (by omega) (by omega) (by omega) (by omega) (by omega) (by omega) (by omega) (by omega)
    obtain ⟨f1, f2, f3, f4⟩ := he_ok v
    exact boundHearing_yes o d n p q b s r t _ _ _ w un up uq hb hs hr ht (by omega) (by omega) (by omega) (by omega) r1 r2 ⟨(sh_yes hx).2, (sh_yes hx).1⟩ ⟨f2, f3, f4, f1⟩ (by omega) (by omega) (by omega) (by omega) k1 k2
  | false =>
    exact boundHearing_no o d n p q b s r t _ w un up uq hb hs hr ht (by omega) (by omega) (by omega) (by omega) r1 r2 ⟨rfl, (sh_no hx).1⟩

end Go.Proofs.Ytaodaglaflohbaa
