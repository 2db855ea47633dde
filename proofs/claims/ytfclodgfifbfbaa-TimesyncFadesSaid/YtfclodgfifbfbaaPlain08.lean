/- Plain integer facts about spans: validity, growing, meeting. No program is in sight here. -/
import Derived.WalkKit
namespace Go.Proofs.Ytfclodgfifbfbaa

def vldS (l h a : Int) : Bool := decide (-20000000000000 ≤ l ∧ l ≤ h ∧ h ≤ 20000000000000 ∧ -2000000000 ≤ a ∧ a ≤ 20000000000000)
theorem vldS_iff {l h a : Int} : vldS l h a = true ↔ -20000000000000 ≤ l ∧ l ≤ h ∧ h ≤ 20000000000000 ∧ -2000000000 ≤ a ∧ a ≤ 20000000000000 := by simp [vldS]
theorem vldS_no {l h a : Int} : vldS l h a = false ↔ ¬(-20000000000000 ≤ l ∧ l ≤ h ∧ h ≤ 20000000000000 ∧ -2000000000 ≤ a ∧ a ≤ 20000000000000) := by simp only [vldS, decide_eq_false_iff_not]

/-- By how much a span is widened on each side after e microseconds. -/
def gm (e : Int) : Int := (e * 51 + 999999) / 1000000 + 1
theorem gm_bd {e : Int} (h : 0 ≤ e) (h' : e ≤ 22000000000000) : 1 ≤ gm e ∧ gm e ≤ 2000000000 := by unfold gm; omega

/-- Growing: 0, or the error. -/
def okA (l h a n : Int) : Bool := vldS l h a && decide (a ≤ n ∧ n ≤ 20000000000000)
def okR (l h a n : Int) : Bool := vldS (l - gm (n - a)) (h + gm (n - a)) n
def grE (l h a n : Int) : Int := if okA l h a n = true then (if okR l h a n = true then 0 else 3) else 1
def grL (l h a n : Int) : Int := if grE l h a n = 0 then l - gm (n - a) else 0
def grH (l h a n : Int) : Int := if grE l h a n = 0 then h + gm (n - a) else 0
def grA (l h a n : Int) : Int := if grE l h a n = 0 then n else 0

theorem okA_iff {l h a n : Int} : okA l h a n = true ↔ vldS l h a = true ∧ a ≤ n ∧ n ≤ 20000000000000 := by simp [okA]
theorem gr_arg {l h a n : Int} (k : okA l h a n = false) : grE l h a n = 1 ∧ grL l h a n = 0 ∧ grH l h a n = 0 ∧ grA l h a n = 0 := by simp [grE, grL, grH, grA, k]
theorem gr_range {l h a n : Int} (k : okA l h a n = true) (r : okR l h a n = false) : grE l h a n = 3 ∧ grL l h a n = 0 ∧ grH l h a n = 0 ∧ grA l h a n = 0 := by simp [grE, grL, grH, grA, k, r]
theorem gr_ok {l h a n : Int} (k : okA l h a n = true) (r : okR l h a n = true) : grE l h a n = 0 ∧ grL l h a n = l - gm (n - a) ∧ grH l h a n = h + gm (n - a) ∧ grA l h a n = n := by simp [grE, grL, grH, grA, k, r]
/-- What is known of a span that has grown. -/
theorem gr_zero {l h a n : Int} (k : grE l h a n = 0) : okA l h a n = true ∧ okR l h a n = true ∧ grL l h a n = l - gm (n - a) ∧ grH l h a n = h + gm (n - a) ∧ grA l h a n = n := by
  rcases Bool.eq_false_or_eq_true (okA l h a n) with ka | ka
  · rcases Bool.eq_false_or_eq_true (okR l h a n) with kr | kr
    · obtain ⟨_, h1, h2, h3⟩ := gr_ok ka kr
      exact ⟨ka, kr, h1, h2, h3⟩
    · rw [(gr_range ka kr).1] at k; cases k
  · rw [(gr_arg ka).1] at k; cases k
theorem gr_cases (l h a n : Int) : (grE l h a n = 0 ∧ okA l h a n = true ∧ okR l h a n = true) ∨ (grE l h a n = 3 ∧ okA l h a n = true ∧ okR l h a n = false) ∨ (grE l h a n = 1 ∧ okA l h a n = false) := by
  rcases Bool.eq_false_or_eq_true (okA l h a n) with ka | ka
  · rcases Bool.eq_false_or_eq_true (okR l h a n) with kr | kr
    · exact .inl ⟨(gr_ok ka kr).1, ka, kr⟩
    · exact .inr (.inl ⟨(gr_range ka kr).1, ka, kr⟩)
  · exact .inr (.inr ⟨(gr_arg ka).1, ka⟩)
theorem gr_err {l h a n : Int} (k : grE l h a n ≠ 0) : grL l h a n = 0 ∧ grH l h a n = 0 ∧ grA l h a n = 0 := by simp [grL, grH, grA, k]

/-- Width. -/
def widS (l h a : Int) : Int := if vldS l h a = true then h - l else -1

/-- A hint. -/
def vldH (asn b loc : Int) : Bool := decide (0 ≤ asn ∧ asn ≤ 1000000000 ∧ 0 ≤ b ∧ b ≤ 2000 ∧ -2000000000 ≤ loc ∧ loc ≤ 20000000000000)
theorem vldH_iff {asn b loc : Int} : vldH asn b loc = true ↔ 0 ≤ asn ∧ asn ≤ 1000000000 ∧ 0 ≤ b ∧ b ≤ 2000 ∧ -2000000000 ≤ loc ∧ loc ≤ 20000000000000 := by simp [vldH]
theorem vldH_no {asn b loc : Int} : vldH asn b loc = false ↔ ¬(0 ≤ asn ∧ asn ≤ 1000000000 ∧ 0 ≤ b ∧ b ≤ 2000 ∧ -2000000000 ≤ loc ∧ loc ≤ 20000000000000) := by simp only [vldH, decide_eq_false_iff_not]
def heE (asn b loc : Int) : Int := if vldH asn b loc = true then 0 else 1
def heL (asn b loc : Int) : Int := if vldH asn b loc = true then asn * 10000 - loc - b else 0
def heH (asn b loc : Int) : Int := if vldH asn b loc = true then asn * 10000 - loc + b else 0
def heA (asn b loc : Int) : Int := if vldH asn b loc = true then loc else 0
theorem he_ok {asn b loc : Int} (k : vldH asn b loc = true) : heE asn b loc = 0 ∧ heL asn b loc = asn * 10000 - loc - b ∧ heH asn b loc = asn * 10000 - loc + b ∧ heA asn b loc = loc := by simp [heE, heL, heH, heA, k]
theorem he_no {asn b loc : Int} (k : vldH asn b loc = false) : heE asn b loc = 1 ∧ heL asn b loc = 0 ∧ heH asn b loc = 0 ∧ heA asn b loc = 0 := by simp [heE, heL, heH, heA, k]

end Go.Proofs.Ytfclodgfifbfbaa
