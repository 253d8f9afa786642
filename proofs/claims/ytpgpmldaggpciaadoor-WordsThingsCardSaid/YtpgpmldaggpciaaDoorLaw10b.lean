/- The plain laws of layer 10: WordsThings. -/
import Derived.Test.YtpgpmldaggpciaaDoorLaw10c
import Derived.Test.YtpgpmldaggpciaaDoorPWox1
import Derived.Test.YtpgpmldaggpciaaDoorPWox2
import Derived.Test.YtpgpmldaggpciaaDoorPWox4
set_option linter.unusedVariables false
set_option linter.unusedSimpArgs false
namespace Go.Proofs.YtpgpmldaggpciaaDoor.Law10
open Go.RowKit Go.Proofs.YtpgpmldaggpciaaDoor.PWo Go.Proofs.YtpgpmldaggpciaaDoorW.PrintWords Go.Proofs.YtpgpmldaggpciaaDoorW.PrintLast Go.Proofs.YtpgpmldaggpciaaDoorW.PrintMore Go.Proofs.YtpgpmldaggpciaaDoor.Maths Go.Proofs.YtpgpmldaggpciaaDoor.TabW Go.Proofs.YtpgpmldaggpciaaDoor.GW
theorem zero_is (n : Int) : ∃ r, words_Zero.f n = some r ∧ selkieref10_Zero.f n = some r := by
  unfold words_Zero.f selkieref10_Zero.f
  by_cases h : n = 5
  · rw [if_pos h, if_pos h, if_pos (by decide), if_pos (by decide)]; exact ⟨_, rfl, congrArg some (by decide +kernel)⟩
  · rw [if_neg h, if_neg h, if_pos (by decide), if_pos (by decide)]; exact ⟨_, rfl, congrArg some (by decide +kernel)⟩
theorem for_is (n : Int) : ∃ r, words_For.f n = some r ∧ selkieref10_For.f n = some r := by
  unfold words_For.f selkieref10_For.f
  by_cases h0 : n = 0
  · rw [if_pos h0, if_pos h0, if_pos (by decide)]; exact ⟨_, rfl, congrArg some (by decide +kernel)⟩
  rw [if_neg h0, if_neg h0]
  by_cases h1 : n = 1
  · rw [if_pos h1, if_pos h1, if_pos (by decide)]; exact ⟨_, rfl, congrArg some (by decide +kernel)⟩
  rw [if_neg h1, if_neg h1]
  by_cases h2 : n = 2
  · rw [if_pos h2, if_pos h2, if_pos (by decide)]; exact ⟨_, rfl, congrArg some (by decide +kernel)⟩
  rw [if_neg h2, if_neg h2]
  by_cases h3 : n = 3
  · rw [if_pos h3, if_pos h3, if_pos (by decide)]; exact ⟨_, rfl, congrArg some (by decide +kernel)⟩
  rw [if_neg h3, if_neg h3]; exact ⟨_, rfl, rfl⟩
theorem arg_is (n : Int) (s : ByteArray) (hn : -9223372036854775808 ≤ n ∧ n ≤ 9223372036854775807) (hs : s.size ≤ 10000) : ∃ r, words_Arg.f n s = some r ∧ selkieref10_Arg.f n s = some r := by
  have e : words_Arg.f n s = selkieref10_Arg.f n s := rfl
  rw [e]
  have h := itoaS_size n hn
  unfold selkieref10_Arg.f selkieref01_Digits.f digitsF fmtF
  rw [if_pos ⟨rfl, hn⟩]; simp only [Option.bind_some]
  rw [if_pos (by omega), if_pos (by simp only [ByteArray.size_append, sizeL, List.length_cons, List.length_nil]; omega), if_pos (by simp only [ByteArray.size_append, sizeL, List.length_cons, List.length_nil]; omega), if_pos (by simp only [ByteArray.size_append, sizeL, List.length_cons, List.length_nil]; omega)]
  exact ⟨_, rfl, rfl⟩
theorem field_is (s : ByteArray) : ∃ r, words_Field.f s = some r ∧ selkieref10_Field.f 1 s = some r := by
  unfold words_Field.f selkieref10_Field.f
  simp only [selkieref10_Field.j0]
  generalize s.toList = l
  by_cases h0 : l = [110, 105, 108]
  · rw [if_pos h0, if_pos h0]; exact ⟨_, rfl, rfl⟩
  rw [if_neg h0, if_neg h0]
  by_cases h1 : l = [100, 101, 97, 100]
  · rw [if_pos h1, if_pos h1]; exact ⟨_, rfl, rfl⟩
  rw [if_neg h1, if_neg h1]
  by_cases h2 : l = [115, 101, 108, 102]
  · rw [if_pos h2, if_pos h2, if_pos (beq_iff_eq.2 h2)]; exact ⟨_, rfl, rfl⟩
  rw [if_neg h2, if_neg h2]
  by_cases h3 : l = [114, 117, 110, 110, 105, 110, 103]
  · rw [if_pos h3, if_pos (beq_iff_eq.2 h3)]; exact ⟨_, rfl, rfl⟩
  rw [if_neg h3, if_neg (fun e => h3 (beq_iff_eq.1 e))]
  repeat' (split <;> try exact ⟨_, rfl, rfl⟩)
theorem things_is (n : Int) (s : ByteArray) (hn : -9223372036854775808 ≤ n ∧ n ≤ 9223372036854775807) : selkielaw10_WordsThings.f 1 n s = some true := by
  unfold selkielaw10_WordsThings.f
  rw [alive_is]; simp only [Option.bind_some, if_true]
  by_cases h : (s.size : Int) > 10000
  · rw [if_pos h]
  · rw [if_neg h]
    obtain ⟨r1, a1, b1⟩ := zero_is n
    obtain ⟨r2, a2, b2⟩ := for_is n
    obtain ⟨r3, a3, b3⟩ := arg_is n s hn (by omega)
    obtain ⟨r4, a4, b4⟩ := field_is s
    rw [a1, b1, a2, b2, a3, b3, a4, b4]
    simp
theorem things_walk (n : Int) (s : ByteArray) (w : World) (hT : Tab w) (hn : -9223372036854775808 ≤ n ∧ n ≤ 9223372036854775807) :
    Calls Tryd.prog 7 #[.int .i64 n, .string s] w fun e w' => e = .returned (.bool true) ∧ Below w.heap.size w w' :=
  selkielaw10_WordsThings.calls 1 n s true w hT rfl (things_is n s hn)
end Go.Proofs.YtpgpmldaggpciaaDoor.Law10
