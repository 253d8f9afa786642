/- The plain law of ValuePairs. -/
import Derived.Test.YtbmenmcjlidadaaDoorLaws01
import Derived.Test.YtbmenmcjlidadaaDoorPAllx7
import Derived.Test.YtbmenmcjlidadaaDoorPAllx8
set_option linter.unusedVariables false
set_option linter.unusedSimpArgs false
namespace Go.Proofs.YtbmenmcjlidadaaDoor.Laws01
open Go.RowKit Go.Proofs.YtbmenmcjlidadaaDoor.PAll Go.Proofs.YtbmenmcjlidadaaDoorW.PrintWords Go.Proofs.YtbmenmcjlidadaaDoorW.PrintLast Go.Proofs.YtbmenmcjlidadaaDoorW.PrintMore Go.Proofs.YtbmenmcjlidadaaDoor.Maths Go.Proofs.YtbmenmcjlidadaaDoor.TabW Go.Proofs.YtbmenmcjlidadaaDoor.Val Go.Proofs.YtbmenmcjlidadaaDoor.Ref01
theorem pairs (k n : Int) (s : ByteArray) (k2 n2 : Int) (s2 : ByteArray) (hs : s.size ≤ 9223372036854775806) : ∃ j, selkielaw01_ValuePairs.f j k n s k2 n2 s2 = some true := by
  refine ⟨2 * s.size + 4, ?_⟩
  unfold selkielaw01_ValuePairs.f
  rw [alive_is]; simp only [Option.bind_some, if_true]
  rw [great_is (2 * s.size) _ (by simp)]; simp only [Option.bind_some]
  by_cases hg : greatB [⟨k, n, s⟩, ⟨k2, n2, s2⟩] = true
  · rw [if_pos hg]
  rw [if_neg hg, less_is, raw_is]
  rw [at_rounds (g := fun j => selkieref01_Less.f j k n s k2 n2 s2) (fun j => selkieref01_Less.mono _ _ _ _ _ _ j) (show 2 * s.size + 3 ≤ 2 * s.size + 4 by omega) (less_is' k n s k2 n2 s2 hs)]
  rw [at_rounds (g := fun j => selkieref01_Raw.f j k n s k2 n2 s2) (fun j => selkieref01_Raw.mono _ _ _ _ _ _ j) (show 1 ≤ 2 * s.size + 4 by omega) (raw_is' k n s k2 n2 s2)]
  simp
theorem pairs_walk (k0 n0 : Int) (s0 : ByteArray) (k1 n1 : Int) (s1 : ByteArray) (w : World) (hT : Tab w) (hs : s0.size ≤ 9223372036854775806) :
    Calls Tryd.prog 4 #[.agg #[.int .i64 k0, .int .i64 n0, .string s0], .agg #[.int .i64 k1, .int .i64 n1, .string s1]] w fun e w' => e = .returned (.bool true) ∧ Below w.heap.size w w' := by
  obtain ⟨j, hj⟩ := pairs k0 n0 s0 k1 n1 s1 hs
  exact selkielaw01_ValuePairs.calls j k0 n0 s0 k1 n1 s1 true w hT rfl hj
end Go.Proofs.YtbmenmcjlidadaaDoor.Laws01
