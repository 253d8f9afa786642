/- The plain laws of layer 10: WordsValues. -/
import Derived.Test.YtpgpmldaggpciaaDoorLaw10c
import Derived.Test.YtpgpmldaggpciaaDoorPWox3
set_option linter.unusedVariables false
set_option linter.unusedSimpArgs false
namespace Go.Proofs.YtpgpmldaggpciaaDoor.Law10
open Go.RowKit Go.Proofs.YtpgpmldaggpciaaDoor.PWo Go.Proofs.YtpgpmldaggpciaaDoorW.PrintWords Go.Proofs.YtpgpmldaggpciaaDoorW.PrintLast Go.Proofs.YtpgpmldaggpciaaDoorW.PrintMore Go.Proofs.YtpgpmldaggpciaaDoor.Maths Go.Proofs.YtpgpmldaggpciaaDoor.TabW Go.Proofs.YtpgpmldaggpciaaDoor.GW
theorem values_is (k n : Int) (s : ByteArray) (k2 n2 : Int) (s2 : ByteArray) (hn : -9223372036854775808 ≤ n ∧ n ≤ 9223372036854775807) : selkielaw10_WordsValues.f 1 k n s k2 n2 s2 = some true := by
  unfold selkielaw10_WordsValues.f
  rw [alive_is]; simp only [Option.bind_some, if_true]
  by_cases h : (s.size : Int) > 10000
  · rw [if_pos h, selkielaw10_WordsValues.j0, if_pos rfl]
  · rw [if_neg h]
    obtain ⟨r1, a1, b1⟩ := index_is k n s
    obtain ⟨r2, a2, b2⟩ := call_is k n s
    obtain ⟨r3, a3, b3⟩ := len_is k n s
    obtain ⟨r4, a4, b4⟩ := arith_is k n s k2 n2 s2 (by omega)
    obtain ⟨r5, a5, b5⟩ := concat_is k n s k2 n2 s2 hn
    obtain ⟨r6, a6, b6⟩ := compare_is k n s k2 n2 s2
    obtain ⟨r7, a7, b7⟩ := error_is k n s hn
    rw [selkielaw10_WordsValues.j0, a1, b1, a2, b2, a3, b3, a4, b4, a5, b5, a6, b6, a7, b7]
    simp only [Option.bind_some, if_true]
    split
    · rfl
    · simp
theorem values_walk (k n : Int) (s : ByteArray) (k2 n2 : Int) (s2 : ByteArray) (w : World) (hT : Tab w) (hn : -9223372036854775808 ≤ n ∧ n ≤ 9223372036854775807) :
    Calls Tryd.prog 5 #[.agg #[.int .i64 k, .int .i64 n, .string s], .agg #[.int .i64 k2, .int .i64 n2, .string s2]] w fun e w' => e = .returned (.bool true) ∧ Below w.heap.size w w' :=
  selkielaw10_WordsValues.calls 1 k n s k2 n2 s2 true w hT rfl (values_is k n s k2 n2 s2 hn)
end Go.Proofs.YtpgpmldaggpciaaDoor.Law10
