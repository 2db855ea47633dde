/- The contracts of chapter 21 as the laws use them. -/
import Derived.Test.YtheifmdaladfdaaLearn21
import Derived.Test.YtheifmdaladfdaaLearn21p
import Derived.Test.YtheifmdaladfdaaTell21
namespace Go.Proofs.Ytheifmdaladfdaa
open Go.RowKit

def lrX (ls be : List Dn) (c s f : Int) : List Dn := if lrnB ls be c s f = true then lrL ls be c s f else []
def lrE (ls be : List Dn) (c s f : Int) : Int := if lrnB ls be c s f = true then 0 else 1
theorem learn_any (v u : Value) (ls be : List Dn) (c s f : Int) (w : World) (sl : SlD w v ls) (sb : SlD w u be) (h70 : ls.length ≤ 70) (g70 : be.length ≤ 70) :
    Calls Try.prog 12 #[v, .int .i64 c, .int .i64 s, u, .int .i64 f] w fun e w' => LrnP w (lrX ls be c s f) (lrE ls be c s f) e w' := by
  cases h : lrnB ls be c s f with
  | false =>
    have e1 : lrX ls be c s f = [] := by rw [lrX, h, if_neg (by simp)]
    have e2 : lrE ls be c s f = 1 := by rw [lrE, h, if_neg (by simp)]
    rw [e1, e2]
    exact learn_bad v u ls be c s f w sl sb h
  | true =>
    have e1 : lrX ls be c s f = mrg c f (newsL c s be) ls := by rw [lrX, h, if_pos rfl, mrg_lrL h]
    have e2 : lrE ls be c s f = 0 := by rw [lrE, h, if_pos rfl]
    rw [e1, e2]
    obtain ⟨h1, h2, h3, h4, h5, h6⟩ := lrnB_spec h
    refine learn_good v u ls be c s f w sl sb h70 g70 h1 (nodB_iff.2 h2) h3.1 h3.2 h4.1 h4.2 h5 ?_
    rw [← Bool.not_eq_true]
    intro ha
    obtain ⟨d, hd, e⟩ := List.any_eq_true.1 ha
    exact h6 d hd (eq_of_beq e)
theorem learn_lit (v u : Value) (ls be : List Dn) (c s f : Int) (xs : List Dn) (E : Int) (w : World) (sl : SlD w v ls) (sb : SlD w u be) (h70 : ls.length ≤ 70) (g70 : be.length ≤ 70) (h : lrX ls be c s f = xs ∧ lrE ls be c s f = E) :
    Calls Try.prog 12 #[v, .int .i64 c, .int .i64 s, u, .int .i64 f] w fun e w' => LrnP w xs E e w' := by
  obtain ⟨rfl, rfl⟩ := h
  exact learn_any v u ls be c s f w sl sb h70 g70
theorem rlearn_any (v u : Value) (ls be : List Dn) (c s f : Int) (w : World) (sl : SlD w v ls) (sb : SlD w u be) (h70 : ls.length ≤ 70) (g70 : be.length ≤ 70) :
    Calls Try.prog 13 #[v, .int .i64 c, .int .i64 s, u, .int .i64 f] w fun e w' => LrnP w (lrX ls be c s f) (lrE ls be c s f) e w' := by
  cases h : lrnB ls be c s f with
  | false =>
    have e1 : lrX ls be c s f = [] := by rw [lrX, h, if_neg (by simp)]
    have e2 : lrE ls be c s f = 1 := by rw [lrE, h, if_neg (by simp)]
    rw [e1, e2]
    exact rlearn_bad v u ls be c s f w sl sb h
  | true =>
    have e1 : lrX ls be c s f = lrL ls be c s f := by rw [lrX, h, if_pos rfl]
    have e2 : lrE ls be c s f = 0 := by rw [lrE, h, if_pos rfl]
    rw [e1, e2]
    exact rlearn_good v u ls be c s f w sl sb h70 g70 h
theorem rlearn_lit (v u : Value) (ls be : List Dn) (c s f : Int) (xs : List Dn) (E : Int) (w : World) (sl : SlD w v ls) (sb : SlD w u be) (h70 : ls.length ≤ 70) (g70 : be.length ≤ 70) (h : lrX ls be c s f = xs ∧ lrE ls be c s f = E) :
    Calls Try.prog 13 #[v, .int .i64 c, .int .i64 s, u, .int .i64 f] w fun e w' => LrnP w xs E e w' := by
  obtain ⟨rfl, rfl⟩ := h
  exact rlearn_any v u ls be c s f w sl sb h70 g70
theorem tel_any (v : Value) (ls : List Dn) (w : World) (sl : SlD w v ls) (h70 : ls.length ≤ 70) : Calls Try.prog 19 #[v] w fun e w' => SlP w (telL ls) e w' := by
  cases hv : vldD ls with
  | false => exact tel_bad v ls w sl h70 hv
  | true => exact tel_good v ls w sl h70 hv
theorem tel_lit (v : Value) (ls xs : List Dn) (w : World) (sl : SlD w v ls) (h70 : ls.length ≤ 70) (h : telL ls = xs) : Calls Try.prog 19 #[v] w fun e w' => SlP w xs e w' := by
  rw [← h]; exact tel_any v ls w sl h70
theorem rtel_any (v : Value) (ls : List Dn) (w : World) (sl : SlD w v ls) (h70 : ls.length ≤ 70) : Calls Try.prog 20 #[v] w fun e w' => SlP w (telL ls) e w' := by
  cases hv : vldD ls with
  | false => exact rtel_bad v ls w sl h70 hv
  | true => exact rtel_good v ls w sl h70 hv
theorem rexp_any (v : Value) (ls : List Dn) (x : Int) (w : World) (sl : SlD w v ls) (h70 : ls.length ≤ 70) : Calls Try.prog 18 #[v, .int .i64 x] w fun e w' => SlP w (expL ls x) e w' := by
  cases hv : vldD ls with
  | false => exact rexp_bad v ls x w sl h70 hv
  | true => exact rexp_good v ls x w sl h70 hv
theorem lrX_len (ls be : List Dn) (c s f : Int) : (lrX ls be c s f).length ≤ 60 := by
  unfold lrX
  split
  · exact tgt_len _ 60
  · simp
/-- A slice that was just built. -/
theorem built (w : World) (ds : List Dn) (n : Nat) (hn : n = w.heap.size) (hl : ds.length ≤ 100) : SlD (w.alloc (.cells (flatT dnL ds).toArray 35)) (.slice (some ⟨n, 0, none⟩) ds.length ds.length) ds := by
  subst hn
  refine ⟨_, ds.length, by rw [List.length_map], by rw [List.length_map]; exact Nat.le_refl _, by unfold maxLen; omega, (fun e => by cases e), fun i cs hi => ?_⟩
  rw [List.getElem?_map] at hi
  cases e : ds[i]? with
  | none => rw [e] at hi; cases hi
  | some a =>
    rw [e] at hi
    obtain rfl : dnL.f a = cs := by simpa using hi
    refine ⟨w.heap.size, 0, rfl, by simp, fun j x hx => ?_⟩
    have hat := flatT_at (L := dnL) e hx
    rw [Nat.zero_add]
    exact (own_new w _ _).cell (by simpa using hat)
theorem below_an {w w' : World} {o : Obj} (hb : Below (w.alloc o).heap.size (w.alloc o) w') : Below w.heap.size w w' := (belowNew w o).trans (hb.mono (belowNew w o).size)

end Go.Proofs.Ytheifmdaladfdaa
