/- What is said of values: both sides. -/
import Derived.Test.YtpgpmldaggpciaaDoorPWox1
import Derived.Test.YtpgpmldaggpciaaDoorPWox2
set_option linter.unusedVariables false
set_option linter.unusedSimpArgs false
namespace Go.Proofs.YtpgpmldaggpciaaDoor.Law10
open Go.RowKit Go.Proofs.YtpgpmldaggpciaaDoor.PWo Go.Proofs.YtpgpmldaggpciaaDoorW.PrintWords Go.Proofs.YtpgpmldaggpciaaDoorW.PrintLast Go.Proofs.YtpgpmldaggpciaaDoorW.PrintMore Go.Proofs.YtpgpmldaggpciaaDoor.Maths Go.Proofs.YtpgpmldaggpciaaDoor.TabW Go.Proofs.YtpgpmldaggpciaaDoor.GW
theorem typeS_size (k : Int) : (typeS k).size ≤ 8 := by
  unfold typeS; repeat' split
  all_goals decide
theorem itoaS_size (n : Int) (hn : -9223372036854775808 ≤ n ∧ n ≤ 9223372036854775807) : (itoaS n).size ≤ 21 := by
  unfold itoaS
  by_cases h : n < 0
  · obtain ⟨m, rfl⟩ : ∃ m : Nat, n = -(m : Int) := ⟨n.natAbs, by omega⟩
    rw [Conv03.itoa_neg m (by omega), sizeL, List.length_cons]
    have := Conv03.dec_len m (by omega); omega
  · obtain ⟨m, rfl⟩ := Int.eq_ofNat_of_zero_le (show 0 ≤ n by omega)
    rw [Conv03.itoa_pos m, sizeL]
    have := Conv03.dec_len m (by omega); omega
theorem att_is (a : ByteArray) (k n : Int) (s : ByteArray) (ha : a.size ≤ 100) :
    words_attempt.f a k n s = some (((((⟨#[97, 116, 116, 101, 109, 112, 116, 32, 116, 111, 32]⟩ : ByteArray) ++ a) ++ (⟨#[32, 97, 32]⟩ : ByteArray)) ++ typeS k) ++ (⟨#[32, 118, 97, 108, 117, 101]⟩ : ByteArray)) := by
  have h := typeS_size k
  unfold words_attempt.f value_Type.f typeF
  rw [if_pos (by omega), if_pos (by simp only [ByteArray.size_append, sizeL, List.length_cons, List.length_nil]; omega)]
  simp only [Option.bind_some]
  rw [if_pos (by simp only [ByteArray.size_append, sizeL, List.length_cons, List.length_nil]; omega), if_pos (by simp only [ByteArray.size_append, sizeL, List.length_cons, List.length_nil]; omega)]
theorem index_is (k n : Int) (s : ByteArray) : ∃ r, words_Index.f k n s = some r ∧ selkieref10_Index.f k n s = some r := by
  have h := typeS_size k
  unfold words_Index.f selkieref10_Index.f selkieref01_Type.f rtypeF typeF
  rw [att_is _ k n s (by decide)]
  simp only [Option.bind_some]
  rw [if_pos (by omega), if_pos (by simp only [ByteArray.size_append, sizeL, List.length_cons, List.length_nil]; omega)]
  exact ⟨_, rfl, congrArg some (congrArg (· ++ _) (congrArg (· ++ _) (by decide +kernel)))⟩
theorem call_is (k n : Int) (s : ByteArray) : ∃ r, words_Call.f k n s = some r ∧ selkieref10_Call.f k n s = some r := by
  have h := typeS_size k
  unfold words_Call.f selkieref10_Call.f selkieref01_Type.f rtypeF typeF
  rw [att_is _ k n s (by decide)]
  simp only [Option.bind_some]
  rw [if_pos (by omega), if_pos (by simp only [ByteArray.size_append, sizeL, List.length_cons, List.length_nil]; omega)]
  exact ⟨_, rfl, congrArg some (congrArg (· ++ _) (congrArg (· ++ _) (by decide +kernel)))⟩
theorem len_is (k n : Int) (s : ByteArray) : ∃ r, words_Len.f k n s = some r ∧ selkieref10_Len.f k n s = some r := by
  have h := typeS_size k
  unfold words_Len.f selkieref10_Len.f selkieref01_Type.f rtypeF typeF
  rw [att_is _ k n s (by decide)]
  simp only [Option.bind_some]
  rw [if_pos (by omega), if_pos (by simp only [ByteArray.size_append, sizeL, List.length_cons, List.length_nil]; omega)]
  exact ⟨_, rfl, congrArg some (congrArg (· ++ _) (congrArg (· ++ _) (by decide +kernel)))⟩
theorem arith_is (k n : Int) (s : ByteArray) (k2 n2 : Int) (s2 : ByteArray) (hs : s.size ≤ 140737488351232) : ∃ r, words_Arith.f k n s k2 n2 s2 = some r ∧ selkieref10_Arith.f k n s k2 n2 s2 = some r := by
  have h := typeS_size k
  have h2 := typeS_size k2
  unfold words_Arith.f selkieref10_Arith.f selkieref01_Type.f conv_Number.f selkieref03_Number.f rnumberF numberF rtypeF typeF
  rw [if_pos hs]
  simp only [Option.bind_some]
  by_cases hb : (numberT k n s).2 = true
  · rw [if_pos hb, if_pos hb, att_is _ k2 n2 s2 (by decide)]
    simp only [Option.bind_some]
    rw [if_pos (by omega), if_pos (by simp only [ByteArray.size_append, sizeL, List.length_cons, List.length_nil]; omega)]
    exact ⟨_, rfl, congrArg some (congrArg (· ++ _) (congrArg (· ++ _) (by decide +kernel)))⟩
  · rw [if_neg hb, if_neg hb, att_is _ k n s (by decide)]
    simp only [Option.bind_some]
    rw [if_pos (by omega), if_pos (by simp only [ByteArray.size_append, sizeL, List.length_cons, List.length_nil]; omega)]
    exact ⟨_, rfl, congrArg some (congrArg (· ++ _) (congrArg (· ++ _) (by decide +kernel)))⟩
theorem concat_is (k n : Int) (s : ByteArray) (k2 n2 : Int) (s2 : ByteArray) (hn : -9223372036854775808 ≤ n ∧ n ≤ 9223372036854775807) : ∃ r, words_Concat.f k n s k2 n2 s2 = some r ∧ selkieref10_Concat.f k n s k2 n2 s2 = some r := by
  have h := typeS_size k
  have h2 := typeS_size k2
  unfold words_Concat.f selkieref10_Concat.f selkieref01_Type.f conv_String.f selkieref03_String.f rstringF stringF rtypeF typeF
  rw [if_pos hn]
  simp only [Option.bind_some]
  by_cases hb : (stringT k n s).2 = true
  · rw [if_pos hb, if_pos hb, att_is _ k2 n2 s2 (by decide)]
    simp only [Option.bind_some]
    rw [if_pos (by omega), if_pos (by simp only [ByteArray.size_append, sizeL, List.length_cons, List.length_nil]; omega)]
    exact ⟨_, rfl, congrArg some (congrArg (· ++ _) (congrArg (· ++ _) (by decide +kernel)))⟩
  · rw [if_neg hb, if_neg hb, att_is _ k n s (by decide)]
    simp only [Option.bind_some]
    rw [if_pos (by omega), if_pos (by simp only [ByteArray.size_append, sizeL, List.length_cons, List.length_nil]; omega)]
    exact ⟨_, rfl, congrArg some (congrArg (· ++ _) (congrArg (· ++ _) (by decide +kernel)))⟩
theorem compare_is (k n : Int) (s : ByteArray) (k2 n2 : Int) (s2 : ByteArray) : ∃ r, words_Compare.f k n s k2 n2 s2 = some r ∧ selkieref10_Compare.f k n s k2 n2 s2 = some r := by
  have h := typeS_size k
  have h2 := typeS_size k2
  have e : words_Compare.f k n s k2 n2 s2 = selkieref10_Compare.f k n s k2 n2 s2 := rfl
  rw [e]
  unfold selkieref10_Compare.f selkieref01_Type.f rtypeF typeF
  simp only [Option.bind_some]
  by_cases hb : (typeS k).toList = (typeS k2).toList
  · rw [if_pos hb, if_pos (by omega), if_pos (by simp only [ByteArray.size_append, sizeL, List.length_cons, List.length_nil]; omega)]
    exact ⟨_, rfl, rfl⟩
  · rw [if_neg hb, if_pos (by omega), if_pos (by simp only [ByteArray.size_append, sizeL, List.length_cons, List.length_nil]; omega), if_pos (by simp only [ByteArray.size_append, sizeL, List.length_cons, List.length_nil]; omega)]
    exact ⟨_, rfl, rfl⟩
theorem error_is (k n : Int) (s : ByteArray) (hn : -9223372036854775808 ≤ n ∧ n ≤ 9223372036854775807) : ∃ r, words_Error.f k n s = some r ∧ selkieref10_Error.f k n s = some r := by
  have h := typeS_size k
  have e1 : conv_String.f k n s = some (stringT k n s) := by unfold conv_String.f stringF; rw [if_pos hn]
  have e2 : selkieref01_Digits.f n = some (itoaS n) := by unfold selkieref01_Digits.f digitsF fmtF; rw [if_pos ⟨rfl, hn⟩]
  unfold words_Error.f selkieref10_Error.f
  rw [e1, e2]
  simp only [Option.bind_some]
  unfold stringT
  by_cases h2 : k = 2
  · rw [if_pos h2, if_pos h2, if_pos rfl]; exact ⟨_, rfl, rfl⟩
  · by_cases h3 : k = 3
    · rw [if_neg h2, if_neg h2, if_pos h3, if_pos h3, if_pos rfl]; exact ⟨_, rfl, rfl⟩
    · rw [if_neg h2, if_neg h2, if_neg h3, if_neg h3]
      unfold selkieref01_Type.f value_Type.f rtypeF typeF
      simp only [Option.bind_some]
      rw [if_neg (by decide), if_pos (by omega), if_pos (by simp only [ByteArray.size_append, sizeL, List.length_cons, List.length_nil]; omega)]
      exact ⟨_, rfl, rfl⟩
theorem itoa1 (n : Nat) (h : n < 10) : itoaS (n : Int) = ⟨#[UInt8.ofNat (48 + n)]⟩ := by
  unfold itoaS; rw [Conv03.itoa_pos, Lib.decDigits_one h]
theorem alive_is : selkielaw10_alive.f = some true := by
  have e2 : strconv_Itoa.f 2 = some ⟨#[50]⟩ := by
    unfold strconv_Itoa.f itoaF digitsF fmtF; rw [if_pos (by decide)]; exact congrArg some (itoa1 2 (by decide))
  have e7 : conv_String.f 2 7 ⟨#[]⟩ = some (⟨#[55]⟩, true) := by
    unfold conv_String.f stringF stringT; rw [if_pos (by decide), if_pos rfl]; exact congrArg some (congrArg (·, true) (itoa1 7 (by decide)))
  unfold selkielaw10_alive.f words_Arg.f
  rw [e2]
  have e8 : words_Error.f 2 7 ⟨#[]⟩ = some ⟨#[55]⟩ := by unfold words_Error.f; rw [e7]; rfl
  rw [e8]
  decide +kernel
end Go.Proofs.YtpgpmldaggpciaaDoor.Law10
