-- printed by a call of the kit's print.py over several functions of this seat (wip/pr.sh)
import Derived.Test.YtpgpmldaggpciaaDoorPAx0
import Derived.Test.YtpgpmldaggpciaaDoorPAx1
namespace Go.Proofs.YtpgpmldaggpciaaDoor.PA
open Go.RowKit Go.Proofs.YtpgpmldaggpciaaDoorW.PrintWords Go.Proofs.YtpgpmldaggpciaaDoorW.PrintLast Go.Proofs.YtpgpmldaggpciaaDoorW.PrintMore
attribute [local go_sem] max2_int min2_int max_two min_two max_three min_three max_four min_four   -- for this text's walks alone
set_option linter.unusedVariables false
set_option linter.unusedSimpArgs false

end Go.Proofs.YtpgpmldaggpciaaDoor.PA
