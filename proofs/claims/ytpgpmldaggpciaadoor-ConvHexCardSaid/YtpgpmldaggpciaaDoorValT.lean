/- The word of a value's type. -/
import Derived.Test.YtpgpmldaggpciaaDoorPAllx1
import Derived.Test.YtpgpmldaggpciaaDoorMaths
import Derived.Test.YtpgpmldaggpciaaDoorType
import Derived.WalkKit
import Derived.Lib.Hide
import Derived.Lib.LaidTab
import Derived.Lib.AppendIntMem
set_option linter.unusedVariables false
set_option linter.unusedSimpArgs false
namespace Go.Proofs.YtpgpmldaggpciaaDoor.Val
open Go.RowKit Go.Proofs.YtpgpmldaggpciaaDoor.PAll Go.Proofs.YtpgpmldaggpciaaDoorW.PrintWords Go.Proofs.YtpgpmldaggpciaaDoorW.PrintLast Go.Proofs.YtpgpmldaggpciaaDoorW.PrintMore Go.Proofs.YtpgpmldaggpciaaDoor.Maths Go.Proofs.YtpgpmldaggpciaaDoor.TabW

theorem type_is (k n : Int) (s : ByteArray) : value_Type.f k n s = some (typeS k) := by
  unfold typeS value_Type.f
  repeat' (split <;> try rfl)
end Go.Proofs.YtpgpmldaggpciaaDoor.Val
