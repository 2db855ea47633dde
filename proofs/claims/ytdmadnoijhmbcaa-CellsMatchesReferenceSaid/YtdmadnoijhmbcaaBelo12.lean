/- All blocks below B but one lie as they lay. -/
import Derived.Test.YtdmadnoijhmbcaaFld12
import Derived.Test.YtdmadnoijhmbcaaSam12
namespace Go.Proofs.Ytdmadnoijhmbcaa
open Go.RowKit

structure Belo (B b : Nat) (w w' : World) : Prop where
  os : w'.os = w.os
  tape : w'.tape = w.tape
  output : w'.output = w.output
  size : w.heap.size ≤ w'.heap.size
  block : ∀ k, k < B → k ≠ b → w'.heap[k]? = w.heap[k]?
theorem Belo.refl (B b : Nat) (w : World) : Belo B b w w := ⟨rfl, rfl, rfl, Nat.le_refl _, fun _ _ _ => rfl⟩
theorem Belo.to {B b : Nat} {a w w' : World} (h : Belo B b a w) (k : Below B w w') : Belo B b a w' :=
  ⟨k.os.trans h.os, k.tape.trans h.tape, k.output.trans h.output, Nat.le_trans h.size k.size, fun i hi hn => (k.block i hi).trans (h.block i hi hn)⟩
theorem Belo.alloc {B b : Nat} {a w : World} (h : Belo B b a w) (hB : B ≤ w.heap.size) (o : Obj) : Belo B b a (w.alloc o) := h.to ((belowNew w o).mono hB)
theorem Belo.drew {B b : Nat} {a w : World} (h : Belo B b a w) : Belo B b a w.drew := h.to (Below.refl _ _).drew
theorem Belo.grown {B b : Nat} {a w w' : World} {row : Option Nat} (h : Belo B b a w) (hg : w.grownBy w' row) (hB : B ≤ w.heap.size) (hr : ∀ k, row = some k → B ≤ k) : Belo B b a w' := h.to ((Below.refl B w).grown hg hB hr)
theorem Belo.set {B b : Nat} {a w : World} (h : Belo B b a w) (i : Nat) (v : Value) : Belo B b a (w.setCell ⟨b, i, none⟩ v) := by
  have k := (Below.refl b w).setCell (p := ⟨b, i, none⟩) (Nat.le_refl _) v
  exact ⟨k.os.trans h.os, k.tape.trans h.tape, k.output.trans h.output, Nat.le_trans h.size k.size, fun j hj hn => (Below.heap_setCell w ⟨b, i, none⟩ v j hn).trans (h.block j hj hn)⟩
theorem Belo.below {B b C : Nat} {a w : World} (h : Belo B b a w) (h1 : C ≤ b) (h2 : C ≤ B) : Below C a w := ⟨h.os, h.tape, h.output, h.size, fun k hk => h.block k (by omega) (by omega)⟩
theorem Belo.own {B b k : Nat} {a w : World} {cs : List Value} {t : TypeId} (h : Belo B b a w) (o : Own a k cs t) (h1 : k < B) (h2 : k ≠ b) : Own w k cs t := (h.block k h1 h2).trans o
theorem Belo.slt {α : Type} {L : Lay α} {b : Nat} {a w : World} {v : Value} {l : List α} {p1 p2 p3 : Option Addr} {n1 n2 n3 c1 c2 c3 : Nat} {t : TypeId} (h : Belo a.heap.size b a w) (s : SlT L a v l) (hN : NumL L) (o : Own a b [.slice p1 n1 c1, .slice p2 n2 c2, .slice p3 n3 c3] t) : SlT L w v l :=
  s.apart hN o (fun c hc k n e => by
    simp only [List.mem_cons, List.not_mem_nil, or_false] at hc
    rcases hc with rfl | rfl | rfl <;> cases e) h.size (fun b' hne hlt => h.block b' hlt hne)
set_option maxRecDepth 100000 in
set_option maxHeartbeats 400000 in
theorem neq_cell (a b c d : Int) (x : Bool) (h : (a == c && b == d) = x) (w : World) : (binOp .neq 30 (.agg #[.int .i64 a, .int .i64 b]) (.agg #[.int .i64 c, .int .i64 d])).run Try.prog w = .ok (.bool (!x)) w := by
  subst h
  go_simp
  by_cases h0 : a = c
  · by_cases h1 : b = d <;> simp [h0, h1]
  · simp [h0]
theorem take_filt {α : Type} {p : α → Bool} {l : List α} {i : Nat} {d : α} (h : l[i]? = some d) : (l.take (i + 1)).filter p = (l.take i).filter p ++ if p d then [d] else [] := by
  rw [take_snocG h, List.filter_append]
  cases e : p d
  · rw [List.filter_cons_of_neg (by simp [e])]; rfl
  · rw [List.filter_cons_of_pos (by simp [e])]; rfl
theorem filt_le {α : Type} (p : α → Bool) (l : List α) (i : Nat) : ((l.take i).filter p).length ≤ l.length := Nat.le_trans (List.length_filter_le _ _) (List.length_take_le' i l)

end Go.Proofs.Ytdmadnoijhmbcaa
