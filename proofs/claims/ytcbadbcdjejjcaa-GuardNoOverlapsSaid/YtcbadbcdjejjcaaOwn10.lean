/- The contract of the reference's own time: at every state. -/
import Derived.Test.YtcbadbcdjejjcaaPlain10
import Derived.Test.YtcbadbcdjejjcaaTime
namespace Go.Proofs.Ytcbadbcdjejjcaa
open Go.RowKit

def halfX (n : Int) : Int := if n < 0 then wrap64 (-wrap64 ((wrap64 (1 - n)).tdiv 2)) else n / 2
def ownX (k l h asn : Int) : Int := if k = 0 then 10000 * asn else wrap64 (10000 * asn - halfX (wrap64 (l + h)))

theorem wrap64_bd (n : Int) : -9223372036854775808 ≤ wrap64 n ∧ wrap64 n ≤ 9223372036854775807 := by unfold wrap64; omega
theorem wrap64_id {n : Int} (h1 : -9223372036854775808 ≤ n) (h2 : n ≤ 9223372036854775807) : wrap64 n = n := by unfold wrap64; omega

theorem ownX_eq {k l h asn : Int} (h1 : 0 ≤ asn) (h2 : asn < 1000000000) (hk : 0 ≤ k) (h3 : -20000000000000 ≤ l) (h4 : l ≤ 20000000000000) (h5 : -20000000000000 ≤ h) (h6 : h ≤ 20000000000000) : ownX k l h asn = ownT k l h asn := by
  unfold ownX ownT
  by_cases q : k = 0
  · rw [if_pos q, if_neg (by omega)]; omega
  · rw [if_neg q, if_pos (by omega), wrap64_id (n := l + h) (by omega) (by omega)]
    have : halfX (l + h) = (l + h) / 2 := by
      unfold halfX
      split
      · rw [wrap64_id (n := 1 - (l + h)) (by omega) (by omega), Int.tdiv_eq_ediv_of_nonneg (by omega), wrap64_id (n := (1 - (l + h)) / 2) (by omega) (by omega), wrap64_id (by omega) (by omega)]; omega
      · rfl
    rw [this, wrap64_id (by omega) (by omega)]; omega

theorem ownX_root {l h asn : Int} : ownX 0 l h asn = 10000 * asn := by simp [ownX]
/-- Of a valid state it is the own time. -/
theorem ownX_vld {sy : Bool} {k l h a src he asn : Int} (hv : vldT sy l h a k src he = true) (hs : sy = true) (h1 : 0 ≤ asn) (h2 : asn < 1000000000) : ownX k l h asn = ownT k l h asn := by
  rcases (vldT_on hv hs).2 with q | ⟨q1, _, q⟩
  · subst q; simp [ownX, ownT]; omega
  · rw [vldS_iff] at q
    exact ownX_eq h1 h2 (by omega) (by omega) (by omega) (by omega) (by omega)

set_option maxHeartbeats 400000 in
theorem half_any (n : Int) (w : World) (hn : n ≤ 9223372036854775807) :
    Calls Try.prog 36 #[.int .i64 n] w fun e w' => e = .returned (.int .i64 (halfX n)) ∧ w = w' := by
  unfold halfX
  by_cases h : n < 0
  · rw [if_pos h]
    clear hn
    go_enter Try.func36, Try.ntmps36
    go_wp2
    go_ret
    exact ⟨rfl, rfl⟩
  · rw [if_neg h]
    go_enter Try.func36, Try.ntmps36
    go_wp2
    go_ret
    exact ⟨rfl, rfl⟩

set_option maxHeartbeats 400000 in
theorem rown_root (sy : Bool) (l h a k src he asn : Int) (w : World) (hk : (k == 0) = true) (h1 : 0 ≤ asn) (h2 : asn < 1000000000) :
    Calls Try.prog 19 #[.agg #[.bool sy, .int .i64 l, .int .i64 h, .int .i64 a, .int .i64 k, .int .i64 src, .int .i64 he], .int .i64 asn] w
      fun e w' => e = .returned (.int .i64 (10000 * asn)) ∧ Below w.heap.size w w' := by
  go_enter Try.func19, Try.ntmps19
  go_wp2
  go_ret
  exact ⟨rfl, belowNew w _⟩

set_option maxHeartbeats 400000 in
theorem rown_far (sy : Bool) (l h a k src he asn x : Int) (w : World) (hk : (k == 0) = false) (h1 : 0 ≤ asn) (h2 : asn < 1000000000) (hx : wrap64 (10000 * asn - halfX (wrap64 (l + h))) = x) :
    Calls Try.prog 19 #[.agg #[.bool sy, .int .i64 l, .int .i64 h, .int .i64 a, .int .i64 k, .int .i64 src, .int .i64 he], .int .i64 asn] w
      fun e w' => e = .returned (.int .i64 x) ∧ Below w.heap.size w w' := by
  have HX := Lib.hid hx
  clear hx
  go_enter Try.func19, Try.ntmps19
  go_wp2_with fail
  refine (half_any _ _ (wrap64_bd _).2).mono ?_
  rintro e _ ⟨rfl, rfl⟩
  generalize hH : halfX (wrap64 (l + h)) = H at *
  clear hH
  go_wp2
  go_ret
  exact ⟨ret_int HX.out, belowNew w _⟩

theorem rown_lit (sy : Bool) (l h a k src he asn x : Int) (w : World) (h1 : 0 ≤ asn) (h2 : asn < 1000000000) (hx : ownX k l h asn = x) :
    Calls Try.prog 19 #[.agg #[.bool sy, .int .i64 l, .int .i64 h, .int .i64 a, .int .i64 k, .int .i64 src, .int .i64 he], .int .i64 asn] w
      fun e w' => e = .returned (.int .i64 x) ∧ Below w.heap.size w w' := by
  subst hx
  by_cases q : k = 0
  · rw [show ownX k l h asn = 10000 * asn from if_pos q]
    exact rown_root sy l h a k src he asn w (by simpa using q) h1 h2
  · rw [show ownX k l h asn = _ from if_neg q]
    exact rown_far sy l h a k src he asn _ w (by simpa using q) h1 h2 rfl
end Go.Proofs.Ytcbadbcdjejjcaa
