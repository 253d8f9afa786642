/- The calls of conv, by what they answer. -/
import Derived.Test.YtpgpmldaggpciaaDoorGivenA
import Derived.Test.YtpgpmldaggpciaaDoorPAllx1
import Derived.Test.YtpgpmldaggpciaaDoorPAllx2
set_option linter.unusedVariables false
set_option linter.unusedSimpArgs false
namespace Go.Proofs.YtpgpmldaggpciaaDoor.Conv03
open Go.RowKit Go.Proofs.YtpgpmldaggpciaaDoor.PAll Go.Proofs.YtpgpmldaggpciaaDoorW.PrintWords Go.Proofs.YtpgpmldaggpciaaDoorW.PrintLast Go.Proofs.YtpgpmldaggpciaaDoorW.PrintMore Go.Proofs.YtpgpmldaggpciaaDoor.Maths Go.Proofs.YtpgpmldaggpciaaDoor.ConvP Go.Proofs.YtpgpmldaggpciaaDoor.TabW
def GF {α : Type} (s : ByteArray) (x : α) : Option α := if s.size ≤ 140737488351232 then some x else none
theorem GF_some {α : Type} {s : ByteArray} {x r : α} (h : GF s x = some r) : s.size ≤ 140737488351232 ∧ x = r := by
  unfold GF at h; split at h
  · rename_i h1; exact ⟨h1, Option.some.inj h⟩
  · cases h
def baseF (s : ByteArray) (b : Int) : Option (Int × Bool) := GF s (baseT b (trimB s))
def toIntF (s : ByteArray) : Option (Int × Bool) := GF s (toIntT (trimB s))
def numeral2F (s : ByteArray) : Option (Int × Bool) := GF s (numL s.data.toList 9223372036854775807)
def printF (n : Int) : Option ByteArray := fmtF n 10
theorem base_calls (s : ByteArray) (b : Int) (r1 : Int) (r2 : Bool) (w : World) (hT : Tab w) (h : baseF s b = some (r1, r2)) :
    Calls Tryd.prog 15 #[.string s, .int .i64 b] w fun e w' => e = .returned (.tuple #[.int .i64 r1, .bool r2]) ∧ Below w.heap.size w w' := by
  obtain ⟨hs, hr⟩ := GF_some h
  exact conv_Base.calls _ s b r1 r2 w (by rw [base_is s b hs _ (Nat.le_refl _), hr])
theorem toInt_calls (s : ByteArray) (r1 : Int) (r2 : Bool) (w : World) (hT : Tab w) (h : toIntF s = some (r1, r2)) :
    Calls Tryd.prog 14 #[.string s] w fun e w' => e = .returned (.tuple #[.int .i64 r1, .bool r2]) ∧ Below w.heap.size w w' := by
  obtain ⟨hs, hr⟩ := GF_some h
  exact conv_ToInt.calls s r1 r2 w hT (by rw [toInt_is s hs, hr])
theorem numeral2_calls (s : ByteArray) (r1 : Int) (r2 : Bool) (w : World) (hT : Tab w) (h : numeral2F s = some (r1, r2)) :
    Calls Tryd.prog 16 #[.string s] w fun e w' => e = .returned (.tuple #[.int .i64 r1, .bool r2]) ∧ Below w.heap.size w w' := by
  obtain ⟨hs, hr⟩ := GF_some h
  exact conv_Numeral.calls s r1 r2 w hT (by rw [numeral_is s hs, hr])
theorem print_calls (n : Int) (r : ByteArray) (w : World) (hT : Tab w) (h : printF n = some r) :
    Calls Tryd.prog 13 #[.int .i64 n] w fun e w' => e = .returned (.string r) ∧ Below w.heap.size w w' :=
  conv_Print.calls n r w hT (by unfold conv_Print.f strconv_FormatInt.f; unfold printF at h; rw [h]; rfl)
end Go.Proofs.YtpgpmldaggpciaaDoor.Conv03
