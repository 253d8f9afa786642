/- What is said of values, as plain functions, with the calls' contracts. -/
import Derived.Test.YtpgpmldaggpciaaDoorGivenA
import Derived.Test.YtpgpmldaggpciaaDoorPWmx
import Derived.Lib.ItoaNum
set_option linter.unusedVariables false
set_option linter.unusedSimpArgs false
namespace Go.Proofs.YtpgpmldaggpciaaDoor.GW
open Go.RowKit Go.Proofs.YtpgpmldaggpciaaDoor.PWm Go.Proofs.YtpgpmldaggpciaaDoorW.PrintWords Go.Proofs.YtpgpmldaggpciaaDoorW.PrintLast Go.Proofs.YtpgpmldaggpciaaDoorW.PrintMore Go.Proofs.YtpgpmldaggpciaaDoor.Maths Go.Proofs.YtpgpmldaggpciaaDoor.TabW
abbrev aIndex : ByteArray := ⟨#[105, 110, 100, 101, 120]⟩
abbrev aCall : ByteArray := ⟨#[99, 97, 108, 108]⟩
theorem typeS_size (k : Int) : (typeS k).size ≤ 8 := by
  unfold typeS; repeat' split
  all_goals decide
def attS (a : ByteArray) (k : Int) : ByteArray := ((((⟨#[97, 116, 116, 101, 109, 112, 116, 32, 116, 111, 32]⟩ : ByteArray) ++ a) ++ (⟨#[32, 97, 32]⟩ : ByteArray)) ++ typeS k) ++ (⟨#[32, 118, 97, 108, 117, 101]⟩ : ByteArray)
theorem att_is (a : ByteArray) (k n : Int) (s : ByteArray) (ha : a.size ≤ 100) : words_attempt.f a k n s = some (attS a k) := by
  have h := typeS_size k
  unfold words_attempt.f value_Type.f typeF
  rw [if_pos (by omega), if_pos (by simp only [ByteArray.size_append, sizeL, List.length_cons, List.length_nil]; omega)]
  simp only [Option.bind_some]
  rw [if_pos (by simp only [ByteArray.size_append, sizeL, List.length_cons, List.length_nil]; omega), if_pos (by simp only [ByteArray.size_append, sizeL, List.length_cons, List.length_nil]; omega)]
  rfl
abbrev aLen : ByteArray := ⟨#[103, 101, 116, 32, 108, 101, 110, 103, 116, 104, 32, 111, 102]⟩
abbrev aArith : ByteArray := ⟨#[112, 101, 114, 102, 111, 114, 109, 32, 97, 114, 105, 116, 104, 109, 101, 116, 105, 99, 32, 111, 110]⟩
abbrev aConcat : ByteArray := ⟨#[99, 111, 110, 99, 97, 116, 101, 110, 97, 116, 101]⟩
def cmpS (k k2 : Int) : ByteArray :=
  if (typeS k).toList = (typeS k2).toList then ((⟨#[97, 116, 116, 101, 109, 112, 116, 32, 116, 111, 32, 99, 111, 109, 112, 97, 114, 101, 32, 116, 119, 111, 32]⟩ : ByteArray) ++ typeS k) ++ (⟨#[32, 118, 97, 108, 117, 101, 115]⟩ : ByteArray)
  else (((⟨#[97, 116, 116, 101, 109, 112, 116, 32, 116, 111, 32, 99, 111, 109, 112, 97, 114, 101, 32]⟩ : ByteArray) ++ typeS k) ++ (⟨#[32, 119, 105, 116, 104, 32]⟩ : ByteArray)) ++ typeS k2
theorem len_is (k n : Int) (s : ByteArray) : words_Len.f k n s = some (attS aLen k) := by
  unfold words_Len.f; rw [att_is _ k n s (by decide)]; rfl
theorem arithW_is (k n : Int) (s : ByteArray) (k2 n2 : Int) (s2 : ByteArray) (hs : s.size ≤ 140737488351232) : words_Arith.f k n s k2 n2 s2 = some (attS aArith (if (numberT k n s).2 = true then k2 else k)) := by
  unfold words_Arith.f conv_Number.f numberF
  rw [if_pos hs]
  simp only [Option.bind_some]
  by_cases hb : (numberT k n s).2 = true
  · rw [if_pos hb, if_pos hb, att_is _ k2 n2 s2 (by decide)]; rfl
  · rw [if_neg hb, if_neg hb, att_is _ k n s (by decide)]; rfl
theorem concatW_is (k n : Int) (s : ByteArray) (k2 n2 : Int) (s2 : ByteArray) (hn : -9223372036854775808 ≤ n ∧ n ≤ 9223372036854775807) : words_Concat.f k n s k2 n2 s2 = some (attS aConcat (if (stringT k n s).2 = true then k2 else k)) := by
  unfold words_Concat.f conv_String.f stringF
  rw [if_pos hn]
  simp only [Option.bind_some]
  by_cases hb : (stringT k n s).2 = true
  · rw [if_pos hb, if_pos hb, att_is _ k2 n2 s2 (by decide)]; rfl
  · rw [if_neg hb, if_neg hb, att_is _ k n s (by decide)]; rfl
theorem cmp_is (k n : Int) (s : ByteArray) (k2 n2 : Int) (s2 : ByteArray) : words_Compare.f k n s k2 n2 s2 = some (cmpS k k2) := by
  have h := typeS_size k
  have h2 := typeS_size k2
  unfold words_Compare.f value_Type.f typeF cmpS
  simp only [Option.bind_some]
  by_cases hb : (typeS k).toList = (typeS k2).toList
  · rw [if_pos hb, if_pos hb, if_pos (by omega), if_pos (by simp only [ByteArray.size_append, sizeL, List.length_cons, List.length_nil]; omega)]
  · rw [if_neg hb, if_neg hb, if_pos (by omega), if_pos (by simp only [ByteArray.size_append, sizeL, List.length_cons, List.length_nil]; omega), if_pos (by simp only [ByteArray.size_append, sizeL, List.length_cons, List.length_nil]; omega)]
theorem indexW_is (k n : Int) (s : ByteArray) : words_Index.f k n s = some (attS aIndex k) := by
  unfold words_Index.f; rw [att_is _ k n s (by decide)]; rfl
theorem callW_is (k n : Int) (s : ByteArray) : words_Call.f k n s = some (attS aCall k) := by
  unfold words_Call.f; rw [att_is _ k n s (by decide)]; rfl
theorem itoa1 (n : Nat) (h : n < 10) : itoaS (n : Int) = ⟨#[UInt8.ofNat (48 + n)]⟩ := by
  unfold itoaS; rw [Conv03.itoa_pos, Lib.decDigits_one h]
theorem alive_is : selkielaw10_alive.f = some true := by
  have e2 : strconv_Itoa.f 2 = some ⟨#[50]⟩ := by
    unfold strconv_Itoa.f itoaF digitsF fmtF; rw [if_pos (by decide)]; exact congrArg some (itoa1 2 (by decide))
  have e7 : conv_String.f 2 7 ⟨#[]⟩ = some (⟨#[55]⟩, true) := by
    unfold conv_String.f stringF stringT; rw [if_pos (by decide), if_pos rfl]; exact congrArg some (congrArg (·, true) (itoa1 7 (by decide)))
  unfold selkielaw10_alive.f words_Arg.f
  rw [e2]
  have e8 : words_Error.f 2 7 ⟨#[]⟩ = some ⟨#[55]⟩ := by unfold words_Error.f; rw [e7]; rfl
  rw [e8]
  decide +kernel
theorem cIndex (k n : Int) (s : ByteArray) (w : World) : Calls Tryd.prog 18 #[.agg #[.int .i64 k, .int .i64 n, .string s]] w fun e w' => e = .returned (.string (attS aIndex k)) ∧ Below w.heap.size w w' :=
  words_Index.calls k n s _ w (indexW_is k n s)
theorem cCall (k n : Int) (s : ByteArray) (w : World) : Calls Tryd.prog 20 #[.agg #[.int .i64 k, .int .i64 n, .string s]] w fun e w' => e = .returned (.string (attS aCall k)) ∧ Below w.heap.size w w' :=
  words_Call.calls k n s _ w (callW_is k n s)
theorem cLen (k n : Int) (s : ByteArray) (w : World) : Calls Tryd.prog 22 #[.agg #[.int .i64 k, .int .i64 n, .string s]] w fun e w' => e = .returned (.string (attS aLen k)) ∧ Below w.heap.size w w' :=
  words_Len.calls k n s _ w (len_is k n s)
theorem cArith (k n : Int) (s : ByteArray) (k2 n2 : Int) (s2 : ByteArray) (hs : s.size ≤ 140737488351232) (w : World) (hT : Tab w) : Calls Tryd.prog 24 #[.agg #[.int .i64 k, .int .i64 n, .string s], .agg #[.int .i64 k2, .int .i64 n2, .string s2]] w fun e w' => e = .returned (.string (attS aArith (if (numberT k n s).2 = true then k2 else k))) ∧ Below w.heap.size w w' :=
  words_Arith.calls k n s k2 n2 s2 _ w hT (arithW_is k n s k2 n2 s2 hs)
theorem cConcat (k n : Int) (s : ByteArray) (k2 n2 : Int) (s2 : ByteArray) (hn : -9223372036854775808 ≤ n ∧ n ≤ 9223372036854775807) (w : World) (hT : Tab w) : Calls Tryd.prog 26 #[.agg #[.int .i64 k, .int .i64 n, .string s], .agg #[.int .i64 k2, .int .i64 n2, .string s2]] w fun e w' => e = .returned (.string (attS aConcat (if (stringT k n s).2 = true then k2 else k))) ∧ Below w.heap.size w w' :=
  words_Concat.calls k n s k2 n2 s2 _ w hT (concatW_is k n s k2 n2 s2 hn)
theorem cCompare (k n : Int) (s : ByteArray) (k2 n2 : Int) (s2 : ByteArray) (w : World) : Calls Tryd.prog 28 #[.agg #[.int .i64 k, .int .i64 n, .string s], .agg #[.int .i64 k2, .int .i64 n2, .string s2]] w fun e w' => e = .returned (.string (cmpS k k2)) ∧ Below w.heap.size w w' :=
  words_Compare.calls k n s k2 n2 s2 _ w (cmp_is k n s k2 n2 s2)
theorem aliveW_calls (w : World) (hT : Tab w) : Calls Tryd.prog 17 #[] w fun e w' => e = .returned (.bool true) ∧ Below w.heap.size w w' :=
  selkielaw10_alive.calls true w hT rfl alive_is
end Go.Proofs.YtpgpmldaggpciaaDoor.GW
