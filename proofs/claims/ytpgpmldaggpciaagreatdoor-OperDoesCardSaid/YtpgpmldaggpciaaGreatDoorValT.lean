/- The word of a value's type. -/
import Derived.Test.YtpgpmldaggpciaaGreatDoorPAllx1
import Derived.Test.YtpgpmldaggpciaaGreatDoorMaths
import Derived.Test.YtpgpmldaggpciaaGreatDoorType
import Derived.WalkKit
import Derived.Lib.Hide
import Derived.Lib.LaidTab
import Derived.Lib.AppendIntMem
set_option linter.unusedVariables false
set_option linter.unusedSimpArgs false
namespace Go.Proofs.YtpgpmldaggpciaaGreatDoor.Val
open Go.RowKit Go.Proofs.YtpgpmldaggpciaaGreatDoor.PAll Go.Proofs.YtpgpmldaggpciaaGreatDoorW.PrintWords Go.Proofs.YtpgpmldaggpciaaGreatDoorW.PrintLast Go.Proofs.YtpgpmldaggpciaaGreatDoorW.PrintMore Go.Proofs.YtpgpmldaggpciaaGreatDoor.Maths Go.Proofs.YtpgpmldaggpciaaGreatDoor.TabW

theorem type_is (k n : Int) (s : ByteArray) : value_Type.f k n s = some (typeS k) := by
  unfold typeS value_Type.f
  repeat' (split <;> try rfl)
end Go.Proofs.YtpgpmldaggpciaaGreatDoor.Val
