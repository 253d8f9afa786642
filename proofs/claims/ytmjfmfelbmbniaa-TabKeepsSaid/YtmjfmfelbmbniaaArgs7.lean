/- The argument of TabKeeps, as it reads. -/
import Derived.Test.YtmjfmfelbmbniaaArgs5
namespace Go.Proofs.Ytmjfmfelbmbniaa
open Go.RowKit HK Opn
open Go.WideShapes
set_option linter.unusedVariables false
set_option linter.unusedSimpArgs false
set_option linter.constructorNameAsVariable false
set_option maxRecDepth 20000
abbrev KpD := Int × Int × List OpTD × (Int × Int × ByteArray × Unit) × Unit
noncomputable def rKeeps : Rd Try.prog 133 KpD :=
  Rd.struct Try.underlying133 (RdF.cons (by rfl) (Rd.int Try.underlying3) 1 (by kernel_rfl) (RdF.cons (by rfl) (Rd.int Try.underlying3) 1 (by kernel_rfl) (RdF.cons (by rfl) rOpsT 1 (by kernel_rfl) (RdF.cons (by rfl) rVal 3 (by kernel_rfl) (RdF.nil _))))) (by kernel_rfl)
theorem use_opst80 {W : World} {v : Value} {l : List OpTD} (h : rOpsT.R W l [v]) : (l.map toOpT).length * 80 ≤ 140737488351232 := by
  obtain ⟨a, c, e, h1, h2, h3, h4⟩ := h
  simp; unfold reachBytes at h3; omega
theorem use_keeps {W : World} {v : Value} {d : KpD} {r : Reach} {base : Nat} (hv : Value.okWide Try.prog W r base 133 v) (h : rKeeps.R W d v.cells.toList) :
    ∃ lv, v = .agg #[.int .i64 d.1, .int .i64 d.2.1, lv, .int .i64 (toVal d.2.2.2.1).k, .int .i64 (toVal d.2.2.2.1).n, .string (toVal d.2.2.2.1).s] ∧ RdT14 W lv (d.2.2.1.map toOpT) ∧ (d.2.2.1.map toOpT).length * 80 ≤ 140737488351232 ∧ (toVal d.2.2.2.1).s.size ≤ 140737488355328 := by
  obtain ⟨cs, rfl, _⟩ := okWide_struct Try.underlying133 hv
  obtain ⟨c1, c2, e, ⟨rfl, _⟩, ⟨c3, c4, rfl, ⟨rfl, _⟩, ⟨c5, c6, rfl, h5, ⟨c7, c8, rfl, h7, rfl⟩⟩⟩⟩ := h
  obtain ⟨a, c, e5, _⟩ := id h5
  subst e5
  obtain ⟨e7, h8⟩ := use_val_cells h7
  refine ⟨_, ?_, use_opst h5, use_opst80 h5, h8⟩
  obtain ⟨cs⟩ := cs
  have e' : cs = [.int .i64 d.1, .int .i64 d.2.1, .slice a d.2.2.1.length c] ++ (toVal d.2.2.2.1).cells := by rw [← e7]; simpa [Value.cells] using e
  rw [e']
  rfl
end Go.Proofs.Ytmjfmfelbmbniaa
