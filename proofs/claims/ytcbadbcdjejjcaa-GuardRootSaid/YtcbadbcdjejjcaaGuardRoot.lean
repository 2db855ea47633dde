/- GuardRoot: the walk of the law. It returns true for every input, and leaves old memory alone. -/
import Derived.Test.YtcbadbcdjejjcaaHead10
namespace Go.Proofs.Ytcbadbcdjejjcaa
open Go.RowKit

set_option linter.unusedVariables false in
set_option maxRecDepth 100000 in
set_option maxHeartbeats 4000000 in
theorem guardRoot_neg (asn : Int) (w : World) (q1 : asn < 0) (s : gsN true 0 0 0 0 (-1) 0 0 0 asn = 0 ∧ gsE true 0 0 0 0 (-1) 0 0 0 asn = 1) (t : lsL true 0 0 0 0 (-1) 0 0 0 asn = 0 ∧ lsH true 0 0 0 0 (-1) 0 0 0 asn = 0 ∧ gsE true 0 0 0 0 (-1) 0 0 0 asn = 1) :
    Calls Try.prog 9 #[.int .i64 asn] w fun e w' => e = .returned (.bool true) ∧ Below w.heap.size w w' := by
  have Hs := Lib.hid s
  clear s
  have Ht := Lib.hid t
  clear t
  go_enter Try.func9, Try.ntmps9
  go_wp2_with fail
  refine (head_any _).mono ?_
  rintro e w1 ⟨rfl, hb⟩
  have bel := belowTo (Below.refl w.heap.size w) hb (by simp)
  clear hb 
  go_wp2_with fail
  refine (start_any true _).mono ?_
  rintro e w2 ⟨rfl, hb⟩
  replace bel := belowTo bel hb (by exact bel.size)
  clear hb 
  go_wp2_with fail
  refine (send_lit true 0 0 0 0 (-1) 0 0 0 asn 0 1 _ Hs.out).mono ?_
  rintro e w3 ⟨rfl, hb⟩
  have oS : Own w3 w2.heap.size [.bool true, .int .i64 0, .int .i64 0, .int .i64 0, .int .i64 0, .int .i64 (-1), .int .i64 0] 25 := (own_at _ _ rfl).below hb
  replace bel := belowTo (bel.alloc (by have := bel.size; simp; omega) _) hb (by have := bel.size; simp; omega)
  clear hb 
  obtain ⟨cS0, cS1, cS2, cS3, cS4, cS5, cS6, fS, zS⟩ := own7 oS
  go_wp2_with fail
  refine (listen_lit true 0 0 0 0 (-1) 0 0 0 asn 0 0 1 _ Ht.out).mono ?_
  rintro e w4 ⟨rfl, hb⟩
  replace oS := oS.below hb
  replace bel := belowTo bel hb (by exact bel.size)
  clear hb cS0 cS1 cS2 cS3 cS4 cS5 cS6 fS zS
  obtain ⟨cS0, cS1, cS2, cS3, cS4, cS5, cS6, fS, zS⟩ := own7 oS
  go_wp2_with fail
  have oX : Own (w4.alloc (Obj.cells #[.int .i64 0, .int .i64 0] 29)) w4.heap.size [.int .i64 0, .int .i64 0] 29 := own_at _ _ rfl
  replace oS := oS.alloc (Obj.cells #[.int .i64 0, .int .i64 0] 29)
  replace bel := bel.alloc bel.size (Obj.cells #[.int .i64 0, .int .i64 0] 29)
  clear cS0 cS1 cS2 cS3 cS4 cS5 cS6 fS zS
  generalize w4.alloc (Obj.cells #[.int .i64 0, .int .i64 0] 29) = w5 at oS oX bel ⊢
  obtain ⟨cS0, cS1, cS2, cS3, cS4, cS5, cS6, fS, zS⟩ := own7 oS
  obtain ⟨cX0, cX1, fX, zX⟩ := own2 oX
  go_wp2
  all_goals (go_ret; exact ⟨by first | rfl | simp_all, (by repeat (first | exact bel | refine Below.alloc ?_ (by have := bel.size; simp; omega) _))⟩)

set_option linter.unusedVariables false in
set_option maxRecDepth 100000 in
set_option maxHeartbeats 4000000 in
theorem guardRoot_big (asn : Int) (w : World) (q1 : 0 ≤ asn) (q2 : 1000000000 ≤ asn) (s : gsN true 0 0 0 0 (-1) 0 0 0 asn = 0 ∧ gsE true 0 0 0 0 (-1) 0 0 0 asn = 1) (t : lsL true 0 0 0 0 (-1) 0 0 0 asn = 0 ∧ lsH true 0 0 0 0 (-1) 0 0 0 asn = 0 ∧ gsE true 0 0 0 0 (-1) 0 0 0 asn = 1) :
    Calls Try.prog 9 #[.int .i64 asn] w fun e w' => e = .returned (.bool true) ∧ Below w.heap.size w w' := by
  have Hs := Lib.hid s
  clear s
  have Ht := Lib.hid t
  clear t
  go_enter Try.func9, Try.ntmps9
  go_wp2_with fail
  refine (head_any _).mono ?_
  rintro e w1 ⟨rfl, hb⟩
  have bel := belowTo (Below.refl w.heap.size w) hb (by simp)
  clear hb 
  go_wp2_with fail
  refine (start_any true _).mono ?_
  rintro e w2 ⟨rfl, hb⟩
  replace bel := belowTo bel hb (by exact bel.size)
  clear hb 
  go_wp2_with fail
  refine (send_lit true 0 0 0 0 (-1) 0 0 0 asn 0 1 _ Hs.out).mono ?_
  rintro e w3 ⟨rfl, hb⟩
  have oS : Own w3 w2.heap.size [.bool true, .int .i64 0, .int .i64 0, .int .i64 0, .int .i64 0, .int .i64 (-1), .int .i64 0] 25 := (own_at _ _ rfl).below hb
  replace bel := belowTo (bel.alloc (by have := bel.size; simp; omega) _) hb (by have := bel.size; simp; omega)
  clear hb 
  obtain ⟨cS0, cS1, cS2, cS3, cS4, cS5, cS6, fS, zS⟩ := own7 oS
  go_wp2_with fail
  refine (listen_lit true 0 0 0 0 (-1) 0 0 0 asn 0 0 1 _ Ht.out).mono ?_
  rintro e w4 ⟨rfl, hb⟩
  replace oS := oS.below hb
  replace bel := belowTo bel hb (by exact bel.size)
  clear hb cS0 cS1 cS2 cS3 cS4 cS5 cS6 fS zS
  obtain ⟨cS0, cS1, cS2, cS3, cS4, cS5, cS6, fS, zS⟩ := own7 oS
  go_wp2_with fail
  have oX : Own (w4.alloc (Obj.cells #[.int .i64 0, .int .i64 0] 29)) w4.heap.size [.int .i64 0, .int .i64 0] 29 := own_at _ _ rfl
  replace oS := oS.alloc (Obj.cells #[.int .i64 0, .int .i64 0] 29)
  replace bel := bel.alloc bel.size (Obj.cells #[.int .i64 0, .int .i64 0] 29)
  clear cS0 cS1 cS2 cS3 cS4 cS5 cS6 fS zS
  generalize w4.alloc (Obj.cells #[.int .i64 0, .int .i64 0] 29) = w5 at oS oX bel ⊢
  obtain ⟨cS0, cS1, cS2, cS3, cS4, cS5, cS6, fS, zS⟩ := own7 oS
  obtain ⟨cX0, cX1, fX, zX⟩ := own2 oX
  go_wp2
  all_goals (go_ret; exact ⟨by first | rfl | simp_all, (by repeat (first | exact bel | refine Below.alloc ?_ (by have := bel.size; simp; omega) _))⟩)

set_option linter.unusedVariables false in
set_option maxRecDepth 100000 in
set_option maxHeartbeats 4000000 in
theorem guardRoot_ok (asn : Int) (w : World) (q1 : 0 ≤ asn) (q2 : asn < 1000000000) (s : gsN true 0 0 0 0 (-1) 0 0 0 asn = 0 ∧ gsE true 0 0 0 0 (-1) 0 0 0 asn = 0) (t : lsL true 0 0 0 0 (-1) 0 0 0 asn = (-2004) ∧ lsH true 0 0 0 0 (-1) 0 0 0 asn = 2004 ∧ gsE true 0 0 0 0 (-1) 0 0 0 asn = 0) :
    Calls Try.prog 9 #[.int .i64 asn] w fun e w' => e = .returned (.bool true) ∧ Below w.heap.size w w' := by
  have Hs := Lib.hid s
  clear s
  have Ht := Lib.hid t
  clear t
  go_enter Try.func9, Try.ntmps9
  go_wp2_with fail
  refine (head_any _).mono ?_
  rintro e w1 ⟨rfl, hb⟩
  have bel := belowTo (Below.refl w.heap.size w) hb (by simp)
  clear hb 
  go_wp2_with fail
  refine (start_any true _).mono ?_
  rintro e w2 ⟨rfl, hb⟩
  replace bel := belowTo bel hb (by exact bel.size)
  clear hb 
  go_wp2_with fail
  refine (send_lit true 0 0 0 0 (-1) 0 0 0 asn 0 0 _ Hs.out).mono ?_
  rintro e w3 ⟨rfl, hb⟩
  have oS : Own w3 w2.heap.size [.bool true, .int .i64 0, .int .i64 0, .int .i64 0, .int .i64 0, .int .i64 (-1), .int .i64 0] 25 := (own_at _ _ rfl).below hb
  replace bel := belowTo (bel.alloc (by have := bel.size; simp; omega) _) hb (by have := bel.size; simp; omega)
  clear hb 
  obtain ⟨cS0, cS1, cS2, cS3, cS4, cS5, cS6, fS, zS⟩ := own7 oS
  go_wp2_with fail
  refine (listen_lit true 0 0 0 0 (-1) 0 0 0 asn (-2004) 2004 0 _ Ht.out).mono ?_
  rintro e w4 ⟨rfl, hb⟩
  replace oS := oS.below hb
  replace bel := belowTo bel hb (by exact bel.size)
  clear hb cS0 cS1 cS2 cS3 cS4 cS5 cS6 fS zS
  obtain ⟨cS0, cS1, cS2, cS3, cS4, cS5, cS6, fS, zS⟩ := own7 oS
  go_wp2_with fail
  have oX : Own (w4.alloc (Obj.cells #[.int .i64 (-2004), .int .i64 2004] 29)) w4.heap.size [.int .i64 (-2004), .int .i64 2004] 29 := own_at _ _ rfl
  replace oS := oS.alloc (Obj.cells #[.int .i64 (-2004), .int .i64 2004] 29)
  replace bel := bel.alloc bel.size (Obj.cells #[.int .i64 (-2004), .int .i64 2004] 29)
  clear cS0 cS1 cS2 cS3 cS4 cS5 cS6 fS zS
  generalize w4.alloc (Obj.cells #[.int .i64 (-2004), .int .i64 2004] 29) = w5 at oS oX bel ⊢
  obtain ⟨cS0, cS1, cS2, cS3, cS4, cS5, cS6, fS, zS⟩ := own7 oS
  obtain ⟨cX0, cX1, fX, zX⟩ := own2 oX
  go_wp2
  all_goals (go_ret; exact ⟨by first | rfl | simp_all, (by repeat (first | exact bel | refine Below.alloc ?_ (by have := bel.size; simp; omega) _))⟩)

theorem guardRoot_walk (asn : Int) (w : World) (_0 : IntKind.i64.has asn) :
    Calls Try.prog 9 #[.int .i64 asn] w fun e w' => e = .returned (.bool true) ∧ Below w.heap.size w w' := by
  have v : vldT true 0 0 0 0 (-1) 0 = true := by decide
  by_cases q1 : 0 ≤ asn
  · by_cases q2 : asn < 1000000000
    · have eo : ownT 0 0 0 asn = asn * 10000 := by simp [ownT]
      have el := lst_exact (s := asn * 10000) (by omega) (by omega)
      have e : gsE true 0 0 0 0 (-1) 0 0 0 asn = 0 := gs_mk (by decide) q1 q2 v rfl (by simp [bdE, v]) (by rw [eo, el]; omega)
      have n : gsN true 0 0 0 0 (-1) 0 0 0 asn = 0 := by simp only [gsN, e, eo, el]; simp
      have b : gsB true 0 0 0 0 (-1) 0 0 0 asn = 0 := by simp [gsB, bdN]
      exact guardRoot_ok asn w q1 q2 ⟨n, e⟩ ⟨by rw [lsL, if_pos e, n, b]; rfl, by rw [lsH, if_pos e, n, b]; rfl, e⟩
    · have e : gsE true 0 0 0 0 (-1) 0 0 0 asn = 1 := by simp [gsE, gsV, q2]
      exact guardRoot_big asn w q1 (by omega) ⟨by simp [gsN, e], e⟩ ⟨by simp [lsL, e], by simp [lsH, e], e⟩
  · have e : gsE true 0 0 0 0 (-1) 0 0 0 asn = 1 := by simp [gsE, gsV, q1]
    exact guardRoot_neg asn w (by omega) ⟨by simp [gsN, e], e⟩ ⟨by simp [lsL, e], by simp [lsH, e], e⟩

end Go.Proofs.Ytcbadbcdjejjcaa
