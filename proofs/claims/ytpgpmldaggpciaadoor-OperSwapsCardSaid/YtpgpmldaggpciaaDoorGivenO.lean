/- What package value and package num answer, as plain functions, with the calls' contracts. -/
import Derived.Test.YtpgpmldaggpciaaDoorGivenA
import Derived.Test.YtpgpmldaggpciaaDoorVal
import Derived.Test.YtpgpmldaggpciaaDoorNum
import Derived.Test.YtpgpmldaggpciaaDoorPAllx8
import Derived.Test.YtpgpmldaggpciaaDoorPAllx9
set_option linter.unusedVariables false
set_option linter.unusedSimpArgs false
namespace Go.Proofs.YtpgpmldaggpciaaDoor.GW
open Go.RowKit Go.Proofs.YtpgpmldaggpciaaDoor.PAll Go.Proofs.YtpgpmldaggpciaaDoorW.PrintWords Go.Proofs.YtpgpmldaggpciaaDoorW.PrintLast Go.Proofs.YtpgpmldaggpciaaDoorW.PrintMore Go.Proofs.YtpgpmldaggpciaaDoor.Maths Go.Proofs.YtpgpmldaggpciaaDoor.ConvP Go.Proofs.YtpgpmldaggpciaaDoor.TabW Go.Proofs.YtpgpmldaggpciaaDoor.Conv03 Go.Proofs.YtpgpmldaggpciaaDoor.Val
def rawF (k n : Int) (s : ByteArray) (k2 n2 : Int) (s2 : ByteArray) : Option Bool := some (rawB k n s k2 n2 s2)
def lessF (k n : Int) (s : ByteArray) (k2 n2 : Int) (s2 : ByteArray) : Option (Bool × Bool) := some (lessB k n s k2 n2 s2)
def truthF (k n : Int) (s : ByteArray) : Option Bool := some (truthB k n)
def printF (k n : Int) (s : ByteArray) : Option ByteArray := if -9223372036854775808 ≤ n ∧ n ≤ 9223372036854775807 then some (printS k n s) else none
def numdoF (op a b : Int) : Option (Int × Int) := if -9223372036854775808 ≤ b ∧ b ≤ 9223372036854775807 then some (Num.doN op a b, Num.doE op a b) else none
def numoneF (op a : Int) : Option (Int × Int) := num_One.f op a
theorem raw_calls (k n : Int) (s : ByteArray) (k2 n2 : Int) (s2 : ByteArray) (r : Bool) (w : World) (h : rawF k n s k2 n2 s2 = some r) :
    Calls Tryd.prog 70 #[.agg #[.int .i64 k, .int .i64 n, .string s], .agg #[.int .i64 k2, .int .i64 n2, .string s2]] w fun e w' => e = .returned (.bool r) ∧ Below w.heap.size w w' :=
  value_Raw.calls k n s k2 n2 s2 r w (by rw [raw_is]; exact h)
theorem less_calls (k n : Int) (s : ByteArray) (k2 n2 : Int) (s2 : ByteArray) (r1 r2 : Bool) (w : World) (h : lessF k n s k2 n2 s2 = some (r1, r2)) :
    Calls Tryd.prog 71 #[.agg #[.int .i64 k, .int .i64 n, .string s], .agg #[.int .i64 k2, .int .i64 n2, .string s2]] w fun e w' => e = .returned (.tuple #[.bool r1, .bool r2]) ∧ Below w.heap.size w w' :=
  value_Less.calls k n s k2 n2 s2 r1 r2 w (by rw [less_is]; exact h)
theorem truth_calls (k n : Int) (s : ByteArray) (r : Bool) (w : World) (h : truthF k n s = some r) :
    Calls Tryd.prog 47 #[.agg #[.int .i64 k, .int .i64 n, .string s]] w fun e w' => e = .returned (.bool r) ∧ Below w.heap.size w w' :=
  value_Truth.calls k n s r w (by rw [truth_is]; exact h)
theorem print_calls (k n : Int) (s : ByteArray) (r : ByteArray) (w : World) (hT : Tab w) (h : printF k n s = some r) :
    Calls Tryd.prog 57 #[.agg #[.int .i64 k, .int .i64 n, .string s]] w fun e w' => e = .returned (.string r) ∧ Below w.heap.size w w' := by
  unfold printF at h
  split at h
  · rename_i hn; exact value_Print.calls k n s r w hT (by rw [Val.print_is k n s hn]; exact h)
  · cases h
theorem numdo_calls (op a b r1 r2 : Int) (w : World) (h : numdoF op a b = some (r1, r2)) :
    Calls Tryd.prog 93 #[.int .i64 op, .int .i64 a, .int .i64 b] w fun e w' => e = .returned (.tuple #[.int .i64 r1, .int .i64 r2]) ∧ Below w.heap.size w w' := by
  unfold numdoF at h
  split at h
  · rename_i hb
    refine (num_Do.calls 2 op a b r1 r2 w (by rw [Num.do_is 0 op a b hb]; exact h)).mono ?_
    rintro e w' ⟨rfl, hd⟩
    exact ⟨rfl, hd.below⟩
  · cases h
theorem numone_calls (op a r1 r2 : Int) (w : World) (h : numoneF op a = some (r1, r2)) :
    Calls Tryd.prog 74 #[.int .i64 op, .int .i64 a] w fun e w' => e = .returned (.tuple #[.int .i64 r1, .int .i64 r2]) ∧ Below w.heap.size w w' := by
  refine (num_One.calls op a r1 r2 w h).mono ?_
  rintro e w' ⟨rfl, hd⟩
  exact ⟨rfl, hd.below⟩
end Go.Proofs.YtpgpmldaggpciaaDoor.GW
