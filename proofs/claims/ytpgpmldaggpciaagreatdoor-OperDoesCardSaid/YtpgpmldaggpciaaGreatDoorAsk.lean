/- A struct by value of one number, two values and a number, opened: a plain lemma over any program. -/
import Derived.Test.YtpgpmldaggpciaaGreatDoorRow
import Derived.Lib.SmallJoins
import Derived.Deep.Strs
namespace Go.Proofs.YtpgpmldaggpciaaGreatDoor.RowLaws
open Go.ChangeShapes Go.WideShapes Go.ChangeAt Go.RowKit Go.Joins Go.Deep
set_option linter.unusedVariables false
theorem array8 {α : Type} {cs : Array α} (h : cs.size = 8) : ∃ c0 c1 c2 c3 c4 c5 c6 c7, cs = #[c0, c1, c2, c3, c4, c5, c6, c7] := by
  obtain ⟨l⟩ := cs
  match l, h with
  | [c0, c1, c2, c3, c4, c5, c6, c7], _ => exact ⟨c0, c1, c2, c3, c4, c5, c6, c7, rfl⟩
section
variable {H : Type} {enc : TypeId × Value → H} {P : Program} {w : World} {base : Nat} {spare : Nat → Bool} {held : Bool}
theorem open_inner {u : TypeId} {g0 g1 g2 : Field} {n : Nat} {c0 c1 c2 : Value} {y : DataW H × List MemPlace} (hs : P.underlying u = some (.struct #[g0, g1, g2])) (hone : oneCellFields P #[g0, g1, g2] = true)
    (h : DataW.trod enc P w base spare held n u [c0, c1, c2] = some y) :
    ∃ (y0 y1 y2 : DataW H × List MemPlace) (m : Nat), DataW.trod enc P w base spare held m g0.type [c0] = some y0 ∧ DataW.trod enc P w base spare held m g1.type [c1] = some y1 ∧ DataW.trod enc P w base spare held m g2.type [c2] = some y2 := by
  obtain ⟨y0, y1, y2, m, hx, _, h0, h1, h2⟩ := trod_struct3 hs h
  obtain ⟨o0, k0⟩ := hone_of hone 0 g0 rfl
  obtain ⟨o1, k1⟩ := hone_of hone 1 g1 rfl
  obtain ⟨o2, k2⟩ := hone_of hone 2 g2 rfl
  exact ⟨y0, y1, y2, m, by simpa [o0, k0] using h0, by simpa [o1, k1] using h1, by simpa [o2, k2] using h2⟩
theorem open_asked {r : Reach} {b0 : Nat} {t u : TypeId} {f0 f1 f2 f3 g0 g1 g2 : Field} {v : Value} {d : DataW H} {p : List MemPlace} (hs : P.underlying t = some (.struct #[f0, f1, f2, f3])) (hC : P.cellsOf t = 8)
    (ho : f0.offset = 0 ∧ f1.offset = 1 ∧ f2.offset = 4 ∧ f3.offset = 7) (hc : P.cellsOf f0.type = 1 ∧ P.cellsOf f1.type = 3 ∧ P.cellsOf f2.type = 3 ∧ P.cellsOf f3.type = 1) (hu : f1.type = u ∧ f2.type = u)
    (hs2 : P.underlying u = some (.struct #[g0, g1, g2])) (hone : oneCellFields P #[g0, g1, g2] = true) (hv : Value.okWide P w r b0 t v) (h : DataW.Trod enc P w base spare held t v d p) :
    ∃ (v0 v1 v2 v3 v4 v5 v6 v7 : Value) (y0 y1 y2 y3 y4 y5 y6 y7 : DataW H × List MemPlace) (n m m2 : Nat), v = .agg #[v0, v1, v2, v3, v4, v5, v6, v7] ∧
      DataW.trod enc P w base spare held n f0.type [v0] = some y0 ∧ DataW.trod enc P w base spare held m g0.type [v1] = some y1 ∧ DataW.trod enc P w base spare held m g1.type [v2] = some y2 ∧ DataW.trod enc P w base spare held m g2.type [v3] = some y3 ∧
      DataW.trod enc P w base spare held m2 g0.type [v4] = some y4 ∧ DataW.trod enc P w base spare held m2 g1.type [v5] = some y5 ∧ DataW.trod enc P w base spare held m2 g2.type [v6] = some y6 ∧ DataW.trod enc P w base spare held n f3.type [v7] = some y7 := by
  obtain ⟨cs, rfl, hsz⟩ := okWide_struct hs hv
  obtain ⟨c0, c1, c2, c3, c4, c5, c6, c7, rfl⟩ := array8 (hsz.trans hC)
  obtain ⟨fuel, hf⟩ := h
  obtain ⟨y0, y1, y2, y3, n, hx, _, h0, h1, h2, h3⟩ := trod_struct4 hs hf
  obtain ⟨o0, o1, o2, o3⟩ := ho
  obtain ⟨k0, k1, k2, k3⟩ := hc
  obtain ⟨u1, u2⟩ := hu
  rw [o1, k1, u1] at h1
  rw [o2, k2, u2] at h2
  obtain ⟨a0, a1, a2, m, i0, i1, i2⟩ := open_inner hs2 hone (by simpa [Value.cells] using h1)
  obtain ⟨b0, b1, b2, m2, j0, j1, j2⟩ := open_inner hs2 hone (by simpa [Value.cells] using h2)
  exact ⟨c0, c1, c2, c3, c4, c5, c6, c7, y0, a0, a1, a2, b0, b1, b2, y3, n, m, m2, rfl, by simpa [Value.cells, o0, k0] using h0, i0, i1, i2, j0, j1, j2, by simpa [Value.cells, o3, k3] using h3⟩
end
end Go.Proofs.YtpgpmldaggpciaaGreatDoor.RowLaws
