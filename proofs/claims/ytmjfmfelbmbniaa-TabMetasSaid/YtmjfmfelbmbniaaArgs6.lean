/- A row of booleans, as it reads. -/
import Derived.Test.YtmjfmfelbmbniaaArgs5
import Derived.Test.YtmjfmfelbmbniaaTbD
namespace Go.Proofs.Ytmjfmfelbmbniaa
open Go.RowKit HK Opn
open Go.WideShapes
set_option linter.unusedVariables false
set_option linter.unusedSimpArgs false
theorem use_bools {W : World} {v : Value} {l : List Bool} (h : rBools.R W l [v]) : RdB W v l := by
  obtain ⟨a, c, e, h1, h2, h3, h4⟩ := h
  obtain rfl := (List.cons.inj e).1
  refine ⟨a, c, rfl, h1, h2, by unfold reachBytes at h3; omega, fun j x hj => ?_⟩
  obtain ⟨cs, b, off, rfl, e1, _, hc⟩ := h4 j x hj
  refine ⟨b, off, e1, ?_⟩
  have := hc 0 _ rfl
  simpa using this
end Go.Proofs.Ytmjfmfelbmbniaa
