/- A table of cells as an argument. -/
import Derived.Test.YtdmadnoijhmbcaaProg
import Derived.Test.YtdmadnoijhmbcaaPlain12
namespace Go.Proofs.Ytdmadnoijhmbcaa
open Go.ChangeShapes Go.WideShapes Go.Deep Go.RowKit

section
variable {H : Type} {enc : TypeId × Value → H} {P : Program} {w : World} {base : Nat} {spare : Nat → Bool} {held : Bool}
theorem open_three {r : Reach} {b0 : Nat} {tt : TypeId} {f0 f1 f2 : Field} {v : Value} {d : DataW H} {ps : List MemPlace}
    (hs : P.underlying tt = some (.struct #[f0, f1, f2])) (o0 : f0.offset = 0) (o1 : f1.offset = 1) (o2 : f2.offset = 2) (c0 : P.cellsOf f0.type = 1) (c1 : P.cellsOf f1.type = 1) (c2 : P.cellsOf f2.type = 1) (hC : P.cellsOf tt = 3)
    (hok : Value.okWide P w r b0 tt v) (h : DataW.Trod enc P w base spare held tt v d ps) :
    ∃ a b c fuel x y z, v = .agg #[a, b, c] ∧ DataW.trod enc P w base spare held fuel f0.type [a] = some x ∧ DataW.trod enc P w base spare held fuel f1.type [b] = some y ∧ DataW.trod enc P w base spare held fuel f2.type [c] = some z := by
  obtain ⟨cs, rfl, hsz⟩ := Go.WideShapes.okWide_struct hs hok
  rw [hC] at hsz
  obtain ⟨a, b, c, rfl⟩ : ∃ a b c, cs = #[a, b, c] := by
    match cs, hsz with
    | ⟨[a, b, c]⟩, _ => exact ⟨a, b, c, rfl⟩
  obtain ⟨fuel, h⟩ := h
  obtain ⟨ys, n', _, _, hlen, hyl, hf⟩ := DataW.trod_struct hs h
  have q0 := hf 0 f0 rfl
  have q1 := hf 1 f1 rfl
  have q2 := hf 2 f2 rfl
  have hy : ys.length = 3 := by simpa using hyl
  obtain ⟨x, y, z, rfl⟩ : ∃ x y z, ys = [x, y, z] := by
    match ys, hy with
    | [x, y, z], _ => exact ⟨x, y, z, rfl⟩
  rw [o0, c0] at q0
  rw [o1, c1] at q1
  rw [o2, c2] at q2
  exact ⟨a, b, c, n', x, y, z, rfl, by simpa [Value.cells] using q0, by simpa [Value.cells] using q1, by simpa [Value.cells] using q2⟩
end
set_option maxRecDepth 100000 in
theorem open_tbl {H : Type} {enc : TypeId × Value → H} {w : World} {base b0 : Nat} {spare : Nat → Bool} {held : Bool} {r : Reach} {v : Value} {d : DataW H} {ps : List MemPlace}
    (hok : Value.okWide Try.prog w r b0 26 v) (h : DataW.Trod enc Try.prog w base spare held 26 v d ps) : ∃ vu vg va us gs ks, v = .agg #[vu, vg, va] ∧ SlU w vu us ∧ SlG w vg gs ∧ SlA w va ks := by
  obtain ⟨a, b, c, fuel, x, y, z, rfl, h0, h1, h2⟩ := open_three Try.underlying26 rfl rfl rfl (by kernel_rfl) (by kernel_rfl) (by kernel_rfl) (by kernel_rfl) hok h
  obtain ⟨r0, s0, k0⟩ := open_slv (t := 22) (e := 32) (ks := [some .i64, some .i64, some .i64, some .i64]) (n := 5) Try.underlying22 (by kernel_rfl) (by kernel_rfl) (by kernel_rfl) (by decide) h0
  obtain ⟨r1, s1, k1⟩ := open_slv (t := 23) (e := 34) (ks := [some .i64, some .i64, some .i64, some .i64, some .i64]) (n := 5) Try.underlying23 (by kernel_rfl) (by kernel_rfl) (by kernel_rfl) (by decide) h1
  obtain ⟨r2, s2, k2⟩ := open_slv (t := 24) (e := 51) (ks := [some .i64, some .i64, some .i64]) (n := 5) Try.underlying24 (by kernel_rfl) (by kernel_rfl) (by kernel_rfl) (by decide) h2
  obtain ⟨us, rfl, _⟩ := rows_typedP (f := Us.cells) (Q := fun _ => True) (fun cs hcs => us_of (k0 cs hcs))
  obtain ⟨gs, rfl, _⟩ := rows_typedP (f := Gr.cells) (Q := fun _ => True) (fun cs hcs => gr_of (k1 cs hcs))
  obtain ⟨ks, rfl, _⟩ := rows_typedP (f := Ak.cells) (Q := fun _ => True) (fun cs hcs => ak_of (k2 cs hcs))
  exact ⟨a, b, c, us, gs, ks, rfl, s0, s1, s2⟩

end Go.Proofs.Ytdmadnoijhmbcaa
