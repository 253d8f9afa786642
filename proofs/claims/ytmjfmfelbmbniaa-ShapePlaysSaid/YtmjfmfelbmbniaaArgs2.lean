/- Arguments of layer 12: sizes of steps, one step. -/
import Derived.Test.YtmjfmfelbmbniaaArgs
namespace Go.Proofs.Ytmjfmfelbmbniaa
open Go.RowKit HK Opn
open Go.WideShapes
set_option linter.unusedVariables false
set_option linter.unusedSimpArgs false
set_option maxRecDepth 20000
theorem use_steps2 {W : World} {v : Value} {l : List (Int × ByteArray × Unit)} (h : rSteps.R W l [v]) : (l.map fun x => (x.1, x.2.1)).length * 24 ≤ 140737488351232 ∧ ∀ x ∈ l.map (fun x => (x.1, x.2.1)), x.2.size ≤ 140737488355328 := by
  obtain ⟨a, c, e, h1, h2, h3, h4⟩ := h
  refine ⟨by simp; unfold reachBytes at h3; omega, fun x hx => ?_⟩
  obtain ⟨y, hy, rfl⟩ := List.mem_map.1 hx
  obtain ⟨j, hj⟩ := List.getElem?_of_mem hy
  obtain ⟨cs, b, off, ⟨c1, c2, rfl, ⟨rfl, _⟩, ⟨c3, c4, rfl, ⟨rfl, h6⟩, rfl⟩⟩, e1, _, hc⟩ := h4 j y hj
  unfold reachBytes at h6
  dsimp only
  omega
theorem use_step {W : World} {v : Value} {d : Int × ByteArray × Unit} {r : Reach} {base : Nat} (hv : Value.okWide Try.prog W r base 31 v) (h : rStep.R W d v.cells.toList) :
    v = .agg #[.int .i64 d.1, .string d.2.1] ∧ d.2.1.size ≤ 140737488355328 := by
  obtain ⟨cs, rfl, _⟩ := okWide_struct Try.underlying31 hv
  obtain ⟨c1, c2, e, ⟨rfl, _⟩, ⟨c3, c4, rfl, ⟨rfl, h6⟩, rfl⟩⟩ := h
  refine ⟨?_, by unfold reachBytes at h6; omega⟩
  obtain ⟨cs⟩ := cs
  have e' : cs = [.int .i64 d.1, .string d.2.1] := by simpa [Value.cells] using e
  rw [e']
end Go.Proofs.Ytmjfmfelbmbniaa
