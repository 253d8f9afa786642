/- What the references of layers 1 and 2 answer, with the calls' contracts. -/
import Derived.Test.YtpgpmldaggpciaaGreatDoorGivenW
import Derived.Test.YtpgpmldaggpciaaGreatDoorOperT
import Derived.Test.YtpgpmldaggpciaaGreatDoorRefH
import Derived.Test.YtpgpmldaggpciaaGreatDoorNumRef
import Derived.Test.YtpgpmldaggpciaaGreatDoorPAllx5
import Derived.Test.YtpgpmldaggpciaaGreatDoorPAllx6
import Derived.Test.YtpgpmldaggpciaaGreatDoorPAllx7
set_option linter.unusedVariables false
set_option linter.unusedSimpArgs false
namespace Go.Proofs.YtpgpmldaggpciaaGreatDoor.GW
open Go.RowKit Go.Proofs.YtpgpmldaggpciaaGreatDoor.PAll Go.Proofs.YtpgpmldaggpciaaGreatDoorW.PrintWords Go.Proofs.YtpgpmldaggpciaaGreatDoorW.PrintLast Go.Proofs.YtpgpmldaggpciaaGreatDoorW.PrintMore Go.Proofs.YtpgpmldaggpciaaGreatDoor.Maths Go.Proofs.YtpgpmldaggpciaaGreatDoor.ConvP Go.Proofs.YtpgpmldaggpciaaGreatDoor.TabW Go.Proofs.YtpgpmldaggpciaaGreatDoor.Val
def rrawF (k n : Int) (s : ByteArray) (k2 n2 : Int) (s2 : ByteArray) : Option Bool := some (rawB k n s k2 n2 s2)
def rlessF (k n : Int) (s : ByteArray) (k2 n2 : Int) (s2 : ByteArray) : Option (Bool × Bool) := if s.size ≤ 140737488351232 then some (lessB k n s k2 n2 s2) else none
def rtruthF (k n : Int) (s : ByteArray) : Option Bool := some (truthB k n)
def rnumdoF (op a b : Int) : Option (Int × Int) := if (-9223372036854775808 ≤ a ∧ a ≤ 9223372036854775807) ∧ -9223372036854775808 ≤ b ∧ b ≤ 9223372036854775807 then some (Num.doN op a b, Num.doE op a b) else none
abbrev rnumoneF := numoneF
theorem rraw_calls (k n : Int) (s : ByteArray) (k2 n2 : Int) (s2 : ByteArray) (r : Bool) (w : World) (h : rrawF k n s k2 n2 s2 = some r) :
    Calls Tryz.prog 37 #[.agg #[.int .i64 k, .int .i64 n, .string s], .agg #[.int .i64 k2, .int .i64 n2, .string s2]] w fun e w' => e = .returned (.bool r) ∧ Below w.heap.size w w' :=
  selkieref01_Raw.calls 1 k n s k2 n2 s2 r w (by rw [Ref01.raw_is']; exact h)
theorem rless_calls (k n : Int) (s : ByteArray) (k2 n2 : Int) (s2 : ByteArray) (r1 r2 : Bool) (w : World) (h : rlessF k n s k2 n2 s2 = some (r1, r2)) :
    Calls Tryz.prog 38 #[.agg #[.int .i64 k, .int .i64 n, .string s], .agg #[.int .i64 k2, .int .i64 n2, .string s2]] w fun e w' => e = .returned (.tuple #[.bool r1, .bool r2]) ∧ Below w.heap.size w w' := by
  unfold rlessF at h
  split at h
  · rename_i hs; exact selkieref01_Less.calls _ k n s k2 n2 s2 r1 r2 w (by rw [Ref01.less_is' k n s k2 n2 s2 (by omega)]; exact h)
  · cases h
theorem rtruth_calls (k n : Int) (s : ByteArray) (r : Bool) (w : World) (h : rtruthF k n s = some r) :
    Calls Tryz.prog 42 #[.agg #[.int .i64 k, .int .i64 n, .string s]] w fun e w' => e = .returned (.bool r) ∧ Below w.heap.size w w' :=
  selkieref01_Truth.calls k n s r w (by rw [Ref01.truth_is']; exact h)
theorem rnumdo_calls (op a b r1 r2 : Int) (w : World) (h : rnumdoF op a b = some (r1, r2)) :
    Calls Tryz.prog 34 #[.int .i64 op, .int .i64 a, .int .i64 b] w fun e w' => e = .returned (.tuple #[.int .i64 r1, .int .i64 r2]) ∧ Below w.heap.size w w' := by
  unfold rnumdoF at h
  split at h
  · rename_i hb
    refine (selkieref02_Do.calls 200 op a b r1 r2 w (by rw [Num.ref_do op a b hb.1 hb.2]; exact h)).mono ?_
    rintro e w' ⟨rfl, hd⟩
    exact ⟨rfl, by first | exact hd.below | exact hd⟩
  · cases h
theorem rnumone_calls (op a r1 r2 : Int) (w : World) (h : rnumoneF op a = some (r1, r2)) :
    Calls Tryz.prog 41 #[.int .i64 op, .int .i64 a] w fun e w' => e = .returned (.tuple #[.int .i64 r1, .int .i64 r2]) ∧ Below w.heap.size w w' := by
  refine (selkieref02_One.calls op a r1 r2 w (by rw [Num.ref_one]; exact h)).mono ?_
  rintro e w' ⟨rfl, hd⟩
  exact ⟨rfl, by first | exact hd.below | exact hd⟩
end Go.Proofs.YtpgpmldaggpciaaGreatDoor.GW
