/- Plain facts about the meeting of two spans. No program is in sight here. -/
import Derived.Test.YtfclodgfifbfbaaPlain08
namespace Go.Proofs.Ytfclodgfifbfbaa

def mx (a b : Int) : Int := if a < b then b else a
def mn (a b : Int) : Int := if b < a then b else a
theorem mx_max (a b : Int) : mx a b = max a b := by unfold mx; omega
theorem mn_min (a b : Int) : mn a b = min a b := by unfold mn; omega

/-- What the meeting of an earlier span and of a later one comes to, both being valid. -/
def MC (xl xh xa yl yh ya L H A E : Int) : Prop :=
  (okR xl xh xa ya = false ∧ L = 0 ∧ H = 0 ∧ A = 0 ∧ E = 3) ∨
  (okR xl xh xa ya = true ∧ xa < ya ∧ mn (xh + gm (ya - xa)) yh < mx (xl - gm (ya - xa)) yl ∧ L = 0 ∧ H = 0 ∧ A = 0 ∧ E = 16) ∨
  (okR xl xh xa ya = true ∧ xa < ya ∧ mx (xl - gm (ya - xa)) yl ≤ mn (xh + gm (ya - xa)) yh ∧ L = mx (xl - gm (ya - xa)) yl ∧ H = mn (xh + gm (ya - xa)) yh ∧ A = ya ∧ E = 0) ∨
  (okR xl xh xa ya = true ∧ xa = ya ∧ okR yl yh ya ya = false ∧ L = 0 ∧ H = 0 ∧ A = 0 ∧ E = 3) ∨
  (okR xl xh xa ya = true ∧ xa = ya ∧ okR yl yh ya ya = true ∧ mn (xh + gm (ya - xa)) (yh + gm (ya - ya)) < mx (xl - gm (ya - xa)) (yl - gm (ya - ya)) ∧ L = 0 ∧ H = 0 ∧ A = 0 ∧ E = 16) ∨
  (okR xl xh xa ya = true ∧ xa = ya ∧ okR yl yh ya ya = true ∧ mx (xl - gm (ya - xa)) (yl - gm (ya - ya)) ≤ mn (xh + gm (ya - xa)) (yh + gm (ya - ya)) ∧ L = mx (xl - gm (ya - xa)) (yl - gm (ya - ya)) ∧ H = mn (xh + gm (ya - xa)) (yh + gm (ya - ya)) ∧ A = ya ∧ E = 0)

/-- The same, computed. -/
def mcE (xl xh xa yl yh ya : Int) : Int :=
  if okR xl xh xa ya = false then 3
  else if xa < ya then (if mn (xh + gm (ya - xa)) yh < mx (xl - gm (ya - xa)) yl then 16 else 0)
  else if okR yl yh ya ya = false then 3
  else if mn (xh + gm (ya - xa)) (yh + gm (ya - ya)) < mx (xl - gm (ya - xa)) (yl - gm (ya - ya)) then 16 else 0
def mcL (xl xh xa yl yh ya : Int) : Int := if mcE xl xh xa yl yh ya = 0 then (if xa < ya then mx (xl - gm (ya - xa)) yl else mx (xl - gm (ya - xa)) (yl - gm (ya - ya))) else 0
def mcH (xl xh xa yl yh ya : Int) : Int := if mcE xl xh xa yl yh ya = 0 then (if xa < ya then mn (xh + gm (ya - xa)) yh else mn (xh + gm (ya - xa)) (yh + gm (ya - ya))) else 0
def mcA (xl xh xa yl yh ya : Int) : Int := if mcE xl xh xa yl yh ya = 0 then ya else 0

theorem mc_spec {xl xh xa yl yh ya : Int} (h : xa ≤ ya) : MC xl xh xa yl yh ya (mcL xl xh xa yl yh ya) (mcH xl xh xa yl yh ya) (mcA xl xh xa yl yh ya) (mcE xl xh xa yl yh ya) := by
  rcases Bool.eq_false_or_eq_true (okR xl xh xa ya) with r | r
  · by_cases hlt : xa < ya
    · by_cases hc : mn (xh + gm (ya - xa)) yh < mx (xl - gm (ya - xa)) yl
      · have e : mcE xl xh xa yl yh ya = 16 := by simp [mcE, r, hlt, hc]
        exact .inr (.inl ⟨r, hlt, hc, by simp [mcL, e], by simp [mcH, e], by simp [mcA, e], e⟩)
      · have e : mcE xl xh xa yl yh ya = 0 := by simp [mcE, r, hlt, hc]
        exact .inr (.inr (.inl ⟨r, hlt, by omega, by simp [mcL, e, hlt], by simp [mcH, e, hlt], by simp [mcA, e], e⟩))
    · have heq : xa = ya := by omega
      subst heq
      rcases Bool.eq_false_or_eq_true (okR yl yh xa xa) with s | s
      · by_cases hc : mn (xh + gm (xa - xa)) (yh + gm (xa - xa)) < mx (xl - gm (xa - xa)) (yl - gm (xa - xa))
        · have e : mcE xl xh xa yl yh xa = 16 := by simp only [mcE, r, s, hc]; simp
          exact .inr (.inr (.inr (.inr (.inl ⟨r, rfl, s, hc, by simp [mcL, e], by simp [mcH, e], by simp [mcA, e], e⟩))))
        · have e : mcE xl xh xa yl yh xa = 0 := by simp only [mcE, r, s, hc]; simp
          exact .inr (.inr (.inr (.inr (.inr ⟨r, rfl, s, by omega, by simp [mcL, e], by simp [mcH, e], by simp [mcA, e], e⟩))))
      · have e : mcE xl xh xa yl yh xa = 3 := by simp [mcE, r, s]
        exact .inr (.inr (.inr (.inl ⟨r, rfl, s, by simp [mcL, e], by simp [mcH, e], by simp [mcA, e], e⟩)))
  · have e : mcE xl xh xa yl yh ya = 3 := by simp [mcE, r]
    exact .inl ⟨r, by simp [mcL, e], by simp [mcH, e], by simp [mcA, e], e⟩

/-- The meeting of any two spans. -/
def mtE (al ah aa bl bh ba : Int) : Int := if vldS al ah aa = true ∧ vldS bl bh ba = true then (if ba < aa then mcE bl bh ba al ah aa else mcE al ah aa bl bh ba) else 1
def mtL (al ah aa bl bh ba : Int) : Int := if vldS al ah aa = true ∧ vldS bl bh ba = true then (if ba < aa then mcL bl bh ba al ah aa else mcL al ah aa bl bh ba) else 0
def mtH (al ah aa bl bh ba : Int) : Int := if vldS al ah aa = true ∧ vldS bl bh ba = true then (if ba < aa then mcH bl bh ba al ah aa else mcH al ah aa bl bh ba) else 0
def mtA (al ah aa bl bh ba : Int) : Int := if vldS al ah aa = true ∧ vldS bl bh ba = true then (if ba < aa then mcA bl bh ba al ah aa else mcA al ah aa bl bh ba) else 0

theorem mt_no {al ah aa bl bh ba : Int} (h : ¬(vldS al ah aa = true ∧ vldS bl bh ba = true)) : mtL al ah aa bl bh ba = 0 ∧ mtH al ah aa bl bh ba = 0 ∧ mtA al ah aa bl bh ba = 0 ∧ mtE al ah aa bl bh ba = 1 :=
  ⟨by unfold mtL; rw [if_neg h], by unfold mtH; rw [if_neg h], by unfold mtA; rw [if_neg h], by unfold mtE; rw [if_neg h]⟩
theorem mt_gt {al ah aa bl bh ba : Int} (ha : vldS al ah aa = true) (hb : vldS bl bh ba = true) (h : ba < aa) :
    MC bl bh ba al ah aa (mtL al ah aa bl bh ba) (mtH al ah aa bl bh ba) (mtA al ah aa bl bh ba) (mtE al ah aa bl bh ba) := by
  have := mc_spec (xl := bl) (xh := bh) (yl := al) (yh := ah) (Int.le_of_lt h)
  simp only [mtL, mtH, mtA, mtE, ha, hb, h, and_self, if_true]
  exact this
theorem mt_le {al ah aa bl bh ba : Int} (ha : vldS al ah aa = true) (hb : vldS bl bh ba = true) (h : aa ≤ ba) :
    MC al ah aa bl bh ba (mtL al ah aa bl bh ba) (mtH al ah aa bl bh ba) (mtA al ah aa bl bh ba) (mtE al ah aa bl bh ba) := by
  have := mc_spec (xl := al) (xh := ah) (yl := bl) (yh := bh) h
  have h' : ¬ ba < aa := by omega
  simp only [mtL, mtH, mtA, mtE, ha, hb, h', and_self, if_true, if_false]
  exact this

end Go.Proofs.Ytfclodgfifbfbaa
