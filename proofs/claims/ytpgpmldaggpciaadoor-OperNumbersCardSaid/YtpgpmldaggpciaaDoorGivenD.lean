/- The contracts of package oper (Do, One) and of value.Print, as given calls. -/
import Derived.Test.YtpgpmldaggpciaaDoorOperI
import Derived.Test.YtpgpmldaggpciaaDoorPAllx1
import Derived.Test.YtpgpmldaggpciaaDoorPAllx2
set_option linter.unusedVariables false
set_option linter.unusedSimpArgs false
namespace Go.Proofs.YtpgpmldaggpciaaDoor.GW
open Go.RowKit Go.Proofs.YtpgpmldaggpciaaDoor.PAll Go.Proofs.YtpgpmldaggpciaaDoorW.PrintWords Go.Proofs.YtpgpmldaggpciaaDoorW.PrintLast Go.Proofs.YtpgpmldaggpciaaDoorW.PrintMore Go.Proofs.YtpgpmldaggpciaaDoor.Maths Go.Proofs.YtpgpmldaggpciaaDoor.TabW Go.Proofs.YtpgpmldaggpciaaDoor.Val
def doF (op k n : Int) (s : ByteArray) (k2 n2 : Int) (s2 : ByteArray) (most : Int) : Option R4 := if (inR n ∧ inR n2) ∧ s.size ≤ 140737488351232 ∧ s2.size ≤ 140737488351232 then some (doT op k n s k2 n2 s2 most) else none
theorem do_calls (op k n : Int) (s : ByteArray) (k2 n2 : Int) (s2 : ByteArray) (most : Int) (r1 r2 : Int) (r3 : ByteArray) (r4 : Int) (w : World) (hT : Tab w) (h : doF op k n s k2 n2 s2 most = some (r1, r2, r3, r4)) :
    Calls Tryd.prog 46 #[.int .i64 op, .agg #[.int .i64 k, .int .i64 n, .string s], .agg #[.int .i64 k2, .int .i64 n2, .string s2], .int .i64 most] w fun e w' => e = .returned (.tuple #[.agg #[.int .i64 r1, .int .i64 r2, .string r3], .int .i64 r4]) ∧ Below w.heap.size w w' := by
  unfold doF at h
  split at h
  · rename_i hc
    have := hDo op k n s k2 n2 s2 most hc.1.1 hc.1.2 hc.2.1 hc.2.2 w hT
    rw [Option.some.inj h] at this
    exact this
  · cases h
def oneF (op k n : Int) (s : ByteArray) : Option R4 := if s.size ≤ 140737488351232 then some (oneT op k n s) else none
theorem one_calls (op k n : Int) (s : ByteArray) (r1 r2 : Int) (r3 : ByteArray) (r4 : Int) (w : World) (hT : Tab w) (h : oneF op k n s = some (r1, r2, r3, r4)) :
    Calls Tryd.prog 56 #[.int .i64 op, .agg #[.int .i64 k, .int .i64 n, .string s]] w fun e w' => e = .returned (.tuple #[.agg #[.int .i64 r1, .int .i64 r2, .string r3], .int .i64 r4]) ∧ Below w.heap.size w w' := by
  unfold oneF at h
  split at h
  · rename_i hc
    have := hOne op k n s hc w hT
    rw [Option.some.inj h] at this
    exact this
  · cases h
def boolS (b : Bool) : ByteArray := if b then ⟨#[116, 114, 117, 101]⟩ else ⟨#[102, 97, 108, 115, 101]⟩
theorem bool_is (b : Bool) : strconv_FormatBool_75.f b = some (boolS b) := by cases b <;> rfl
def printS (k n : Int) (s : ByteArray) : ByteArray := if k = 1 then boolS (n != 0) else if k = 2 then itoaS n else if k = 3 then s else typeS k
theorem printV_is (k n : Int) (s : ByteArray) (hn : inR n) : value_Print.f k n s = some (printS k n s) := by
  unfold value_Print.f printS
  by_cases h1 : k = 1
  · subst h1; rw [if_pos rfl, if_pos rfl, bool_is]; rfl
  rw [if_neg h1, if_neg h1]
  by_cases h2 : k = 2
  · subst h2; rw [if_pos rfl, if_pos rfl]; unfold strconv_FormatInt.f fmtF; rw [if_pos ⟨rfl, hn⟩]; rfl
  rw [if_neg h2, if_neg h2]
  by_cases h3 : k = 3
  · subst h3; rfl
  rw [if_neg h3, if_neg h3, type_is]; rfl
def printF (k n : Int) (s : ByteArray) : Option ByteArray := if inR n then some (printS k n s) else none
theorem print_calls (k n : Int) (s : ByteArray) (r : ByteArray) (w : World) (hT : Tab w) (h : printF k n s = some r) :
    Calls Tryd.prog 57 #[.agg #[.int .i64 k, .int .i64 n, .string s]] w fun e w' => e = .returned (.string r) ∧ Below w.heap.size w w' := by
  unfold printF at h
  split at h
  · rename_i hn; exact value_Print.calls k n s r w hT (by rw [printV_is k n s hn]; exact h)
  · cases h
end Go.Proofs.YtpgpmldaggpciaaDoor.GW
