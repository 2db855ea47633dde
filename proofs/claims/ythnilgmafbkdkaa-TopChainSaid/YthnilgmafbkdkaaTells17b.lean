/- TopChain: w17Tells by states; what a beacon tells is true. -/
import Derived.Test.YthnilgmafbkdkaaPlainChain
import Derived.Test.YthnilgmafbkdkaaTells17
namespace Go.Proofs.Ythnilgmafbkdkaa
open Go.RowKit

def tlB (s : Stt) (c : Ck) (root : Bool) (asn : Int) : Int := telB root (bdN s.sy s.l s.h s.a s.k s.src s.he (shN c.o c.d (asn * 10000)))
def tlOk (s : Stt) (c : Ck) (root : Bool) (asn : Int) : Bool := telOk (gsE s.sy s.l s.h s.a s.k s.src s.he c.o c.d asn) (shE c.o c.d (asn * 10000)) (bdE s.sy s.l s.h s.a s.k s.src s.he (shN c.o c.d (asn * 10000))) (tlB s c root asn) s.k
theorem tells_lit (s : Stt) (c : Ck) (root : Bool) (asn N b : Int) (ok : Bool) (w : World) (h1 : 0 ≤ asn) (h2 : asn ≤ 1000000000) (h : gsN s.sy s.l s.h s.a s.k s.src s.he c.o c.d asn = N ∧ tlB s c root asn = b ∧ tlOk s c root asn = ok) :
    Calls Try.prog 11 #[.agg #[.bool s.sy, .int .i64 s.l, .int .i64 s.h, .int .i64 s.a, .int .i64 s.k, .int .i64 s.src, .int .i64 s.he], .agg #[.int .i64 c.o, .int .i64 c.d], .bool root, .int .i64 asn] w fun e w' => e = .returned (.tuple #[.int .i64 N, .int .i64 b, .bool ok]) ∧ Below w.heap.size w w' := by
  obtain ⟨hN, hb, hok⟩ := h
  subst hb hok
  obtain ⟨E1, hE1⟩ : ∃ E, gsE s.sy s.l s.h s.a s.k s.src s.he c.o c.d asn = E := ⟨_, rfl⟩
  obtain ⟨LO, hLO⟩ : ∃ E, shN c.o c.d (asn * 10000) = E := ⟨_, rfl⟩
  obtain ⟨E2, hE2⟩ : ∃ E, shE c.o c.d (asn * 10000) = E := ⟨_, rfl⟩
  obtain ⟨B, hB⟩ : ∃ E, bdN s.sy s.l s.h s.a s.k s.src s.he LO = E := ⟨_, rfl⟩
  obtain ⟨E3, hE3⟩ : ∃ E, bdE s.sy s.l s.h s.a s.k s.src s.he LO = E := ⟨_, rfl⟩
  have nn := bdN_nn s.sy s.l s.h s.a s.k s.src s.he LO
  rw [hB] at nn
  obtain ⟨b1, b2⟩ := nn
  have e0 : tlB s c root asn = telB root B := by rw [tlB, hLO, hB]
  have e9 : tlOk s c root asn = telOk E1 E2 E3 (telB root B) s.k := by rw [tlOk, e0, hE1, hLO, hE2, hE3]
  rw [e0, e9]
  cases root with
  | true =>
    show Calls _ _ _ w fun e w' => e = .returned (.tuple #[.int .i64 N, .int .i64 B, .bool (telOk E1 E2 E3 B s.k)]) ∧ Below w.heap.size w w'
    cases e1 : (E1 == 0) with
    | false => rw [show telOk E1 E2 E3 B s.k = false from by simp [telOk, e1]]; exact tells_ta _ _ _ _ _ _ _ _ _ asn N E1 LO E2 B E3 w h1 h2 ⟨hN, hE1⟩ ⟨hLO, hE2⟩ ⟨hB, hE3⟩ b1 b2 e1
    | true =>
    cases e2 : (E2 == 0) with
    | false => rw [show telOk E1 E2 E3 B s.k = false from by simp [telOk, e2]]; exact tells_tb _ _ _ _ _ _ _ _ _ asn N E1 LO E2 B E3 w h1 h2 ⟨hN, hE1⟩ ⟨hLO, hE2⟩ ⟨hB, hE3⟩ b1 b2 e1 e2
    | true =>
    cases e3 : (E3 == 0) with
    | false => rw [show telOk E1 E2 E3 B s.k = false from by simp [telOk, e3]]; exact tells_tc _ _ _ _ _ _ _ _ _ asn N E1 LO E2 B E3 w h1 h2 ⟨hN, hE1⟩ ⟨hLO, hE2⟩ ⟨hB, hE3⟩ b1 b2 e1 e2 e3
    | true =>
    by_cases e6 : 60 ≤ s.k
    · rw [show telOk E1 E2 E3 B s.k = false from by simp [telOk]; omega]; exact tells_te _ _ _ _ _ _ _ _ _ asn N E1 LO E2 B E3 w h1 h2 ⟨hN, hE1⟩ ⟨hLO, hE2⟩ ⟨hB, hE3⟩ b1 b2 e1 e2 e3 e6
    · rw [show telOk E1 E2 E3 B s.k = true from by rw [telOk, e1, e2, e3]; simp; omega]; exact tells_tf _ _ _ _ _ _ _ _ _ asn N E1 LO E2 B E3 w h1 h2 ⟨hN, hE1⟩ ⟨hLO, hE2⟩ ⟨hB, hE3⟩ b1 b2 e1 e2 e3 (by omega)
  | false =>
    show Calls _ _ _ w fun e w' => e = .returned (.tuple #[.int .i64 N, .int .i64 (B + 4), .bool (telOk E1 E2 E3 (B + 4) s.k)]) ∧ Below w.heap.size w w'
    cases e1 : (E1 == 0) with
    | false => rw [show telOk E1 E2 E3 (B + 4) s.k = false from by simp [telOk, e1]]; exact tells_fa _ _ _ _ _ _ _ _ _ asn N E1 LO E2 B E3 w h1 h2 ⟨hN, hE1⟩ ⟨hLO, hE2⟩ ⟨hB, hE3⟩ b1 b2 e1
    | true =>
    cases e2 : (E2 == 0) with
    | false => rw [show telOk E1 E2 E3 (B + 4) s.k = false from by simp [telOk, e2]]; exact tells_fb _ _ _ _ _ _ _ _ _ asn N E1 LO E2 B E3 w h1 h2 ⟨hN, hE1⟩ ⟨hLO, hE2⟩ ⟨hB, hE3⟩ b1 b2 e1 e2
    | true =>
    cases e3 : (E3 == 0) with
    | false => rw [show telOk E1 E2 E3 (B + 4) s.k = false from by simp [telOk, e3]]; exact tells_fc _ _ _ _ _ _ _ _ _ asn N E1 LO E2 B E3 w h1 h2 ⟨hN, hE1⟩ ⟨hLO, hE2⟩ ⟨hB, hE3⟩ b1 b2 e1 e2 e3
    | true =>
    by_cases e4 : 2000 < B + 4
    · rw [show telOk E1 E2 E3 (B + 4) s.k = false from by simp [telOk]; omega]; exact tells_fd _ _ _ _ _ _ _ _ _ asn N E1 LO E2 B E3 w h1 h2 ⟨hN, hE1⟩ ⟨hLO, hE2⟩ ⟨hB, hE3⟩ b1 b2 e1 e2 e3 e4
    by_cases e6 : 60 ≤ s.k
    · rw [show telOk E1 E2 E3 (B + 4) s.k = false from by simp [telOk]; omega]; exact tells_fe _ _ _ _ _ _ _ _ _ asn N E1 LO E2 B E3 w h1 h2 ⟨hN, hE1⟩ ⟨hLO, hE2⟩ ⟨hB, hE3⟩ b1 b2 e1 e2 e3 (by omega) e6
    · rw [show telOk E1 E2 E3 (B + 4) s.k = true from by rw [telOk, e1, e2, e3]; simp; omega]; exact tells_ff _ _ _ _ _ _ _ _ _ asn N E1 LO E2 B E3 w h1 h2 ⟨hN, hE1⟩ ⟨hLO, hE2⟩ ⟨hB, hE3⟩ b1 b2 e1 e2 e3 (by omega) (by omega)
/-- A beacon's frame begins within the bound that is told. -/
theorem tl_true {i : Nat} {s : Stt} {c : Ck} {T asn N b : Int} {root : Bool} (h : GdI i s c T) (hT : T ≤ asn * 10000) (h0 : 0 ≤ asn) (h1 : asn < 1000000000) (hr : root = (i == 0)) (hN : gsN s.sy s.l s.h s.a s.k s.src s.he c.o c.d asn = N) (hb : tlB s c root asn = b) (hok : tlOk s c root asn = true) :
    -b ≤ N ∧ N ≤ b ∧ 0 ≤ b ∧ b ≤ 2000 ∧ 0 ≤ s.k ∧ s.k < 60 := by
  simp only [tlOk, telOk, Bool.and_eq_true, beq_iff_eq, decide_eq_true_eq] at hok
  obtain ⟨⟨⟨⟨g1, g2⟩, g3⟩, g4⟩, g5⟩ := hok
  obtain ⟨u1, u2, u3, u4⟩ := gd_told h hT h0 h1 g1 rfl g2 g3 rfl
  have nn := (bdN_nn s.sy s.l s.h s.a s.k s.src s.he (shN c.o c.d (asn * 10000))).1
  rw [hb] at g4
  have e : b = if i = 0 then bdN s.sy s.l s.h s.a s.k s.src s.he (shN c.o c.d (asn * 10000)) else bdN s.sy s.l s.h s.a s.k s.src s.he (shN c.o c.d (asn * 10000)) + 4 := by
    rw [← hb, tlB, telB, hr]
    by_cases hi : i = 0 <;> simp [hi]
  rw [← e, hN] at u1 u2
  refine ⟨u2, u1, ?_, g4, ?_, g5⟩
  · rw [e]; split <;> omega
  · by_cases hi : i = 0
    · rw [u3 hi]; exact Int.le_refl _
    · have := u4 hi; omega

end Go.Proofs.Ythnilgmafbkdkaa
