/- The arguments of layer 14's statements, as they read. -/
import Derived.Test.YtmjfmfelbmbniaaArgs3
import Derived.Test.YtmjfmfelbmbniaaTbB
namespace Go.Proofs.Ytmjfmfelbmbniaa
open Go.RowKit HK Opn
open Go.WideShapes
set_option linter.unusedVariables false
set_option linter.unusedSimpArgs false
set_option linter.constructorNameAsVariable false
set_option maxRecDepth 20000
abbrev OpTD := Int × Int × (Int × Int × ByteArray × Unit) × (Int × Int × ByteArray × Unit) × Unit
noncomputable def rOpT : Rd Try.prog 130 OpTD :=
  Rd.struct Try.underlying130 (RdF.cons (by rfl) (Rd.int Try.underlying3) 1 (by kernel_rfl) (RdF.cons (by rfl) (Rd.int Try.underlying3) 1 (by kernel_rfl) (RdF.cons (by rfl) rVal 3 (by kernel_rfl) (RdF.cons (by rfl) rVal 3 (by kernel_rfl) (RdF.nil _))))) (by kernel_rfl)
noncomputable def rOpsT : Rd Try.prog 124 (List OpTD) := Rd.slice Try.underlying124 rOpT 8 (by kernel_rfl) (by decide) 80 (by kernel_rfl)
noncomputable def rBools : Rd Try.prog 144 (List Bool) := Rd.slice Try.underlying144 (Rd.bool Try.underlying4) 1 (by kernel_rfl) (by decide) 1 (by kernel_rfl)
def toOpT (x : OpTD) : OpT := ⟨x.1, x.2.1, toVal x.2.2.1, toVal x.2.2.2.1⟩
theorem use_opt_cells {W : World} {x : OpTD} {cs : List Value} (h : rOpT.R W x cs) : cs = (toOpT x).cells ∧ (toOpT x).k.s.size ≤ 140737488355328 ∧ (toOpT x).v.s.size ≤ 140737488355328 := by
  obtain ⟨c1, c2, rfl, ⟨rfl, _⟩, ⟨c3, c4, rfl, ⟨rfl, _⟩, ⟨c5, c6, rfl, h5, ⟨c7, c8, rfl, h7, rfl⟩⟩⟩⟩ := h
  obtain ⟨rfl, h8⟩ := use_val_cells h5
  obtain ⟨rfl, h9⟩ := use_val_cells h7
  exact ⟨rfl, h8, h9⟩
theorem use_opst {W : World} {v : Value} {l : List OpTD} (h : rOpsT.R W l [v]) : RdT14 W v (l.map toOpT) := by
  obtain ⟨a, c, e, h1, h2, h3, h4⟩ := h
  obtain rfl := (List.cons.inj e).1
  refine ⟨a, c, by simp, by simpa using h1, h2, by simp; unfold reachBytes at h3; omega, fun j x hj => ?_⟩
  rw [List.getElem?_map] at hj
  cases e2 : l[j]? with
  | none => rw [e2] at hj; cases hj
  | some y =>
    rw [e2] at hj
    obtain rfl := Option.some.inj hj
    obtain ⟨cs, b, off, hr, e1, _, hc⟩ := h4 j y e2
    obtain ⟨rfl, h7, h8⟩ := use_opt_cells hr
    exact ⟨⟨h7, h8⟩, b, off, e1, hc⟩
end Go.Proofs.Ytmjfmfelbmbniaa
