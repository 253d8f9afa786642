/- The arguments of layer 13's statements, as they read. -/
import Derived.Test.YtmjfmfelbmbniaaOpen
import Derived.Test.YtmjfmfelbmbniaaBC
namespace Go.Proofs.Ytmjfmfelbmbniaa
open Go.RowKit HK Opn
open Go.WideShapes
set_option linter.unusedVariables false
set_option linter.unusedSimpArgs false
set_option linter.constructorNameAsVariable false
set_option maxRecDepth 20000
noncomputable def rVal : Rd Try.prog 57 (Int × Int × ByteArray × Unit) :=
  Rd.struct Try.underlying57 (RdF.cons (by rfl) (Rd.int Try.underlying3) 1 (by kernel_rfl) (RdF.cons (by rfl) (Rd.int Try.underlying2) 1 (by kernel_rfl) (RdF.cons (by rfl) (Rd.str Try.underlying9) 1 (by kernel_rfl) (RdF.nil _)))) (by kernel_rfl)
noncomputable def rOp : Rd Try.prog 59 (Int × (Int × Int × ByteArray × Unit) × (Int × Int × ByteArray × Unit) × Unit) :=
  Rd.struct Try.underlying59 (RdF.cons (by rfl) (Rd.int Try.underlying3) 1 (by kernel_rfl) (RdF.cons (by rfl) rVal 3 (by kernel_rfl) (RdF.cons (by rfl) rVal 3 (by kernel_rfl) (RdF.nil _)))) (by kernel_rfl)
noncomputable def rOps : Rd Try.prog 51 (List (Int × (Int × Int × ByteArray × Unit) × (Int × Int × ByteArray × Unit) × Unit)) := Rd.slice Try.underlying51 rOp 7 (by kernel_rfl) (by decide) 72 (by kernel_rfl)
def toVal (x : Int × Int × ByteArray × Unit) : Val := ⟨x.1, x.2.1, x.2.2.1⟩
def toOp (x : Int × (Int × Int × ByteArray × Unit) × (Int × Int × ByteArray × Unit) × Unit) : OpV := ⟨x.1, toVal x.2.1, toVal x.2.2.1⟩
theorem use_val_cells {W : World} {x : Int × Int × ByteArray × Unit} {cs : List Value} (h : rVal.R W x cs) : cs = (toVal x).cells ∧ (toVal x).s.size ≤ 140737488355328 := by
  obtain ⟨c1, c2, rfl, ⟨rfl, _⟩, ⟨c3, c4, rfl, ⟨rfl, _⟩, ⟨c5, c6, rfl, ⟨rfl, h6⟩, rfl⟩⟩⟩ := h
  refine ⟨rfl, ?_⟩
  unfold reachBytes at h6
  unfold toVal
  dsimp only
  omega
theorem use_op_cells {W : World} {x : Int × (Int × Int × ByteArray × Unit) × (Int × Int × ByteArray × Unit) × Unit} {cs : List Value} (h : rOp.R W x cs) : cs = (toOp x).cells ∧ (toOp x).k.s.size ≤ 140737488355328 ∧ (toOp x).v.s.size ≤ 140737488355328 := by
  obtain ⟨c1, c2, rfl, ⟨rfl, _⟩, ⟨c3, c4, rfl, h3, ⟨c5, c6, rfl, h5, rfl⟩⟩⟩ := h
  obtain ⟨rfl, h7⟩ := use_val_cells h3
  obtain ⟨rfl, h8⟩ := use_val_cells h5
  exact ⟨rfl, h7, h8⟩
theorem use_ops {W : World} {v : Value} {l : List (Int × (Int × Int × ByteArray × Unit) × (Int × Int × ByteArray × Unit) × Unit)} (h : rOps.R W l [v]) : RdO W v (l.map toOp) ∧ (l.map toOp).length * 72 ≤ 140737488351232 := by
  obtain ⟨a, c, e, h1, h2, h3, h4⟩ := h
  obtain rfl := (List.cons.inj e).1
  refine ⟨⟨a, c, by simp, by simpa using h1, h2, by simp; unfold reachBytes at h3; omega, fun j x hj => ?_⟩, by simp; unfold reachBytes at h3; omega⟩
  rw [List.getElem?_map] at hj
  cases e2 : l[j]? with
  | none => rw [e2] at hj; cases hj
  | some y =>
    rw [e2] at hj
    obtain rfl := Option.some.inj hj
    obtain ⟨cs, b, off, hr, e1, _, hc⟩ := h4 j y e2
    obtain ⟨rfl, h7⟩ := use_op_cells hr
    exact ⟨h7, b, off, e1, hc⟩
theorem use_val {W : World} {v : Value} {d : Int × Int × ByteArray × Unit} {r : Reach} {base : Nat} (hv : Value.okWide Try.prog W r base 57 v) (h : rVal.R W d v.cells.toList) : v = (toVal d).v ∧ (toVal d).s.size ≤ 140737488355328 := by
  obtain ⟨cs, rfl, _⟩ := okWide_struct Try.underlying57 hv
  obtain ⟨e, h7⟩ := use_val_cells h
  refine ⟨?_, h7⟩
  obtain ⟨cs⟩ := cs
  have e' : cs = (toVal d).cells := by simpa [Value.cells] using e
  rw [e']
end Go.Proofs.Ytmjfmfelbmbniaa
