/- What conv, value and their references answer, as plain functions, with the calls' contracts. -/
import Derived.Test.YtpgpmldaggpciaaDoorDigP
import Derived.Test.YtpgpmldaggpciaaDoorValT
import Derived.Test.YtpgpmldaggpciaaDoorPAllx1
set_option linter.unusedVariables false
set_option linter.unusedSimpArgs false
namespace Go.Proofs.YtpgpmldaggpciaaDoor.GW
open Go.RowKit Go.Proofs.YtpgpmldaggpciaaDoor.PAll Go.Proofs.YtpgpmldaggpciaaDoorW.PrintWords Go.Proofs.YtpgpmldaggpciaaDoorW.PrintLast Go.Proofs.YtpgpmldaggpciaaDoorW.PrintMore Go.Proofs.YtpgpmldaggpciaaDoor.Maths Go.Proofs.YtpgpmldaggpciaaDoor.ConvP Go.Proofs.YtpgpmldaggpciaaDoor.TabW Go.Proofs.YtpgpmldaggpciaaDoor.Conv03 Go.Proofs.YtpgpmldaggpciaaDoor.Val
def numberT (k n : Int) (s : ByteArray) : Int × Bool := if k = 2 then (n, true) else if k = 3 then toIntT (trimB s) else (0, false)
def stringT (k n : Int) (s : ByteArray) : ByteArray × Bool := if k = 2 then (itoaS n, true) else if k = 3 then (s, true) else (⟨#[]⟩, false)
def numberF (k n : Int) (s : ByteArray) : Option (Int × Bool) := if s.size ≤ 140737488351232 then some (numberT k n s) else none
def stringF (k n : Int) (s : ByteArray) : Option (ByteArray × Bool) := if -9223372036854775808 ≤ n ∧ n ≤ 9223372036854775807 then some (stringT k n s) else none
abbrev rnumberF := numberF
abbrev rstringF := stringF
def digitsF (n : Int) : Option ByteArray := fmtF n 10
abbrev itoaF := digitsF
def typeF (k n : Int) (s : ByteArray) : Option ByteArray := some (typeS k)
abbrev rtypeF := typeF
theorem number_is (k n : Int) (s : ByteArray) (hs : s.size ≤ 140737488351232) : conv_Number.f k n s = some (numberT k n s) := by
  unfold conv_Number.f numberT
  rw [toInt_is s hs]
  by_cases h2 : k = 2
  · simp only [if_pos h2]
  simp only [if_neg h2]
  by_cases h3 : k = 3
  · simp only [if_pos h3]; rfl
  simp only [if_neg h3]
theorem print_is (n : Int) (hn : -9223372036854775808 ≤ n ∧ n ≤ 9223372036854775807) : conv_Print.f n = some (itoaS n) := by
  unfold conv_Print.f strconv_FormatInt.f fmtF; rw [if_pos ⟨rfl, hn⟩]; rfl
theorem string_is (k n : Int) (s : ByteArray) (hn : -9223372036854775808 ≤ n ∧ n ≤ 9223372036854775807) : conv_String.f k n s = some (stringT k n s) := by
  unfold conv_String.f stringT
  rw [print_is n hn]
  by_cases h2 : k = 2
  · simp only [if_pos h2]; rfl
  simp only [if_neg h2]
  by_cases h3 : k = 3
  · simp only [if_pos h3]
  simp only [if_neg h3]
theorem number_calls (k n : Int) (s : ByteArray) (r1 : Int) (r2 : Bool) (w : World) (hT : Tab w) (h : numberF k n s = some (r1, r2)) :
    Calls Tryd.prog 52 #[.agg #[.int .i64 k, .int .i64 n, .string s]] w fun e w' => e = .returned (.tuple #[.int .i64 r1, .bool r2]) ∧ Below w.heap.size w w' := by
  unfold numberF at h
  split at h
  · rename_i hs; exact conv_Number.calls k n s r1 r2 w hT (by rw [number_is k n s hs]; exact h)
  · cases h
theorem string_calls (k n : Int) (s : ByteArray) (r1 : ByteArray) (r2 : Bool) (w : World) (hT : Tab w) (h : stringF k n s = some (r1, r2)) :
    Calls Tryd.prog 54 #[.agg #[.int .i64 k, .int .i64 n, .string s]] w fun e w' => e = .returned (.tuple #[.string r1, .bool r2]) ∧ Below w.heap.size w w' := by
  unfold stringF at h
  split at h
  · rename_i hn; exact conv_String.calls k n s r1 r2 w hT (by rw [string_is k n s hn]; exact h)
  · cases h
theorem itoa_calls (n : Int) (r : ByteArray) (w : World) (hT : Tab w) (h : itoaF n = some r) :
    Calls Tryd.prog 68 #[.int .i64 n] w fun e w' => e = .returned (.string r) ∧ Below w.heap.size w w' := by
  unfold itoaF digitsF fmtF at h
  split at h
  · rename_i hn
    obtain rfl := Option.some.inj h
    refine (Tryd.strconv_Itoa n hn.2.1 hn.2.2 w hT.here).mono ?_
    rintro e w' ⟨he, k, os, rfl⟩
    exact ⟨he, below_grow w k os⟩
  · cases h
theorem type_calls (k n : Int) (s r : ByteArray) (w : World) (h : typeF k n s = some r) :
    Calls Tryd.prog 32 #[.agg #[.int .i64 k, .int .i64 n, .string s]] w fun e w' => e = .returned (.string r) ∧ Below w.heap.size w w' :=
  value_Type.calls k n s r w (by rw [type_is]; exact h)
end Go.Proofs.YtpgpmldaggpciaaDoor.GW
