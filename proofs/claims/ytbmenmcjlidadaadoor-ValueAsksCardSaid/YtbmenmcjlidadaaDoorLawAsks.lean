/- The plain law of ValueAsks. -/
import Derived.Test.YtbmenmcjlidadaaDoorLaws01
import Derived.Test.YtbmenmcjlidadaaDoorPAllx4
import Derived.Test.YtbmenmcjlidadaaDoorPAllx6
set_option linter.unusedVariables false
set_option linter.unusedSimpArgs false
namespace Go.Proofs.YtbmenmcjlidadaaDoor.Laws01
open Go.RowKit Go.Proofs.YtbmenmcjlidadaaDoor.PAll Go.Proofs.YtbmenmcjlidadaaDoorW.PrintWords Go.Proofs.YtbmenmcjlidadaaDoorW.PrintLast Go.Proofs.YtbmenmcjlidadaaDoorW.PrintMore Go.Proofs.YtbmenmcjlidadaaDoor.Maths Go.Proofs.YtbmenmcjlidadaaDoor.TabW Go.Proofs.YtbmenmcjlidadaaDoor.Val Go.Proofs.YtbmenmcjlidadaaDoor.Ref01
theorem asks (k n : Int) (s : ByteArray) (hn : -9223372036854775808 ≤ n ∧ n ≤ 9223372036854775807) : ∃ j, selkielaw01_ValueAsks.f j k n s = some true := by
  obtain ⟨K, hK⟩ := rprint_is k n s hn
  refine ⟨K + 4, ?_⟩
  unfold selkielaw01_ValueAsks.f
  rw [alive_is]; simp only [Option.bind_some, if_true]
  rw [great_is K _ (by simp)]; simp only [Option.bind_some]
  by_cases hg : greatB [⟨k, n, s⟩] = true
  · rw [if_pos hg]
  rw [if_neg hg, key_is, truth_is, type_is, own_is, print_is k n s hn]
  rw [at_rounds (g := fun j => selkieref01_Key.f j k n s) (fun j => selkieref01_Key.mono _ _ _ j) (show 3 ≤ K + 4 by omega) (key_is' k n s)]
  rw [at_rounds (g := fun j => selkieref01_Own.f j k n s) (fun j => selkieref01_Own.mono _ _ _ j) (show 3 ≤ K + 4 by omega) (own_is' k n s)]
  rw [truth_is', rtype_is, hK (K + 4) (by omega)]
  simp
theorem asks_walk (k0 n0 : Int) (s0 : ByteArray) (w : World) (hT : Tab w) (hn : -9223372036854775808 ≤ n0 ∧ n0 ≤ 9223372036854775807) :
    Calls Tryd.prog 3 #[.agg #[.int .i64 k0, .int .i64 n0, .string s0]] w fun e w' => e = .returned (.bool true) ∧ Below w.heap.size w w' := by
  obtain ⟨j, hj⟩ := asks k0 n0 s0 hn
  exact selkielaw01_ValueAsks.calls j k0 n0 s0 true w hT rfl hj
end Go.Proofs.YtbmenmcjlidadaaDoor.Laws01
