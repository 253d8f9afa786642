/- The arguments of layer 15's statements, as they read. -/
import Derived.Test.YtmjfmfelbmbniaaArgs3
import Derived.Test.YtmjfmfelbmbniaaMeE
namespace Go.Proofs.Ytmjfmfelbmbniaa
open Go.RowKit HK Opn
open Go.WideShapes
set_option linter.unusedVariables false
set_option linter.unusedSimpArgs false
set_option linter.constructorNameAsVariable false
set_option maxRecDepth 20000
abbrev OpD := Int × Int × Int × ByteArray × (Int × Int × ByteArray × Unit) × Unit
noncomputable def rOpM : Rd Try.prog 110 OpD :=
  Rd.struct Try.underlying110 (RdF.cons (by rfl) (Rd.int Try.underlying3) 1 (by kernel_rfl) (RdF.cons (by rfl) (Rd.int Try.underlying3) 1 (by kernel_rfl) (RdF.cons (by rfl) (Rd.int Try.underlying3) 1 (by kernel_rfl) (RdF.cons (by rfl) (Rd.str Try.underlying9) 1 (by kernel_rfl) (RdF.cons (by rfl) rVal 3 (by kernel_rfl) (RdF.nil _)))))) (by kernel_rfl)
noncomputable def rOpsM : Rd Try.prog 101 (List OpD) := Rd.slice Try.underlying101 rOpM 7 (by kernel_rfl) (by decide) 72 (by kernel_rfl)
def toOpM (x : OpD) : OpM := ⟨x.1, x.2.1, x.2.2.1, x.2.2.2.1, toVal x.2.2.2.2.1⟩
theorem use_opm_cells {W : World} {x : OpD} {cs : List Value} (h : rOpM.R W x cs) : cs = (toOpM x).cells ∧ (toOpM x).s.size ≤ 140737488355328 ∧ (toOpM x).v.s.size ≤ 140737488355328 := by
  obtain ⟨c1, c2, rfl, ⟨rfl, _⟩, ⟨c3, c4, rfl, ⟨rfl, _⟩, ⟨c5, c6, rfl, ⟨rfl, _⟩, ⟨c7, c8, rfl, ⟨rfl, h7⟩, ⟨c9, c10, rfl, h9, rfl⟩⟩⟩⟩⟩ := h
  obtain ⟨rfl, h8⟩ := use_val_cells h9
  refine ⟨rfl, ?_, h8⟩
  unfold reachBytes at h7
  unfold toOpM
  dsimp only
  omega
theorem use_opsm {W : World} {v : Value} {l : List OpD} (h : rOpsM.R W l [v]) : RdM W v (l.map toOpM) := by
  obtain ⟨a, c, e, h1, h2, h3, h4⟩ := h
  obtain rfl := (List.cons.inj e).1
  refine ⟨a, c, by simp, by simpa using h1, h2, by simp; unfold reachBytes at h3; omega, fun j x hj => ?_⟩
  rw [List.getElem?_map] at hj
  cases e2 : l[j]? with
  | none => rw [e2] at hj; cases hj
  | some y =>
    rw [e2] at hj
    obtain rfl := Option.some.inj hj
    obtain ⟨cs, b, off, hr, e1, _, hc⟩ := h4 j y e2
    obtain ⟨rfl, h7, h8⟩ := use_opm_cells hr
    exact ⟨⟨h7, h8⟩, b, off, e1, hc⟩
end Go.Proofs.Ytmjfmfelbmbniaa
