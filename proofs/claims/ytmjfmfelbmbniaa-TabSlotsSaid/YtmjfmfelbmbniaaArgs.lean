/- The arguments of layer 12's statements, as they read. -/
import Derived.Test.YtmjfmfelbmbniaaOpen
import Derived.Test.YtmjfmfelbmbniaaBA
namespace Go.Proofs.Ytmjfmfelbmbniaa
open Go.RowKit HK Opn
open Go.WideShapes
set_option linter.unusedVariables false
set_option linter.unusedSimpArgs false
set_option linter.constructorNameAsVariable false
set_option maxRecDepth 20000
noncomputable def rStrs : Rd Try.prog 22 (List ByteArray) := Rd.slice Try.underlying22 (Rd.str Try.underlying9) 1 (by kernel_rfl) (by decide) 16 (by kernel_rfl)
noncomputable def rConf : Rd Try.prog 24 (Int × Int × List ByteArray × Unit) :=
  Rd.struct Try.underlying24 (RdF.cons (by rfl) (Rd.int Try.underlying3) 1 (by kernel_rfl) (RdF.cons (by rfl) (Rd.int Try.underlying3) 1 (by kernel_rfl) (RdF.cons (by rfl) rStrs 1 (by kernel_rfl) (RdF.nil _)))) (by kernel_rfl)
noncomputable def rStep : Rd Try.prog 31 (Int × ByteArray × Unit) :=
  Rd.struct Try.underlying31 (RdF.cons (by rfl) (Rd.int Try.underlying3) 1 (by kernel_rfl) (RdF.cons (by rfl) (Rd.str Try.underlying9) 1 (by kernel_rfl) (RdF.nil _))) (by kernel_rfl)
noncomputable def rSteps : Rd Try.prog 25 (List (Int × ByteArray × Unit)) := Rd.slice Try.underlying25 rStep 2 (by kernel_rfl) (by decide) 24 (by kernel_rfl)
theorem use_strs {W : World} {v : Value} {l : List ByteArray} (h : rStrs.R W l [v]) : RdS W v l ∧ l.length ≤ 140737488355328 ∧ ∀ s ∈ l, s.size ≤ maxLen := by
  obtain ⟨a, c, e, h1, h2, h3, h4⟩ := h
  obtain rfl := (List.cons.inj e).1
  refine ⟨⟨a, c, rfl, h1, h2, fun j s hj => ?_⟩, by unfold reachBytes at h3; omega, fun s hs => ?_⟩
  · obtain ⟨cs, b, off, ⟨rfl, _⟩, e1, _, hc⟩ := h4 j s hj
    refine ⟨b, off, e1, ?_⟩
    have := hc 0 _ rfl
    simpa using this
  · obtain ⟨j, hj⟩ := List.getElem?_of_mem hs
    obtain ⟨cs, b, off, ⟨_, h5⟩, _⟩ := h4 j s hj
    unfold reachBytes at h5; unfold maxLen; omega
theorem use_steps {W : World} {v : Value} {l : List (Int × ByteArray × Unit)} (h : rSteps.R W l [v]) : RdT W v (l.map fun x => (x.1, x.2.1)) := by
  obtain ⟨a, c, e, h1, h2, h3, h4⟩ := h
  obtain rfl := (List.cons.inj e).1
  refine ⟨a, c, by simp, by simpa using h1, h2, by simp; unfold reachBytes at h3; omega, fun j x hj => ?_⟩
  rw [List.getElem?_map] at hj
  cases e2 : l[j]? with
  | none => rw [e2] at hj; cases hj
  | some y =>
    rw [e2] at hj
    obtain rfl := Option.some.inj hj
    obtain ⟨cs, b, off, ⟨c1, c2, rfl, ⟨rfl, _⟩, ⟨c3, c4, rfl, ⟨rfl, h6⟩, rfl⟩⟩, e1, _, hc⟩ := h4 j y e2
    refine ⟨b, off, e1, ?_, ?_, by unfold reachBytes at h6; unfold maxLen; dsimp only; omega⟩
    · have := hc 0 _ rfl; simpa using this
    · have := hc 1 _ rfl; simpa using this
theorem use_conf {W : World} {v : Value} {d : Int × Int × List ByteArray × Unit} {r : Reach} {base : Nat} (hv : Value.okWide Try.prog W r base 24 v) (h : rConf.R W d v.cells.toList) :
    ∃ mv, v = .agg #[.int .i64 d.1, .int .i64 d.2.1, mv] ∧ RdS W mv d.2.2.1 ∧ d.2.2.1.length ≤ 140737488355328 ∧ ∀ s ∈ d.2.2.1, s.size ≤ maxLen := by
  obtain ⟨cs, rfl, _⟩ := okWide_struct Try.underlying24 hv
  obtain ⟨c1, c2, e, ⟨rfl, _⟩, ⟨c3, c4, rfl, ⟨rfl, _⟩, ⟨c5, c6, rfl, h5, rfl⟩⟩⟩ := h
  obtain ⟨a, c, rfl, hx⟩ := id h5
  refine ⟨_, ?_, use_strs h5⟩
  obtain ⟨cs⟩ := cs
  have e' : cs = [.int .i64 d.1, .int .i64 d.2.1, .slice a d.2.2.1.length c] := by simpa [Value.cells] using e
  rw [e']
end Go.Proofs.Ytmjfmfelbmbniaa
