/- The document's examples of layer 11: the call's contract. -/
import Derived.Test.YtpgpmldaggpciaaDoorPAlx
set_option linter.unusedVariables false
set_option linter.unusedSimpArgs false
namespace Go.Proofs.YtpgpmldaggpciaaDoor.GW
open Go.RowKit Go.Proofs.YtpgpmldaggpciaaDoorW.PrintWords Go.Proofs.YtpgpmldaggpciaaDoorW.PrintLast Go.Proofs.YtpgpmldaggpciaaDoorW.PrintMore Go.Proofs.YtpgpmldaggpciaaDoor.Maths Go.Proofs.YtpgpmldaggpciaaDoor.TabW
def aliveF : Option Bool := some true
theorem alive_calls (r : Bool) (w : World) (hT : Tab w) (h : aliveF = some r) : Calls Tryd.prog 43 #[] w fun e w' => e = .returned (.bool r) ∧ Below w.heap.size w w' := by
  obtain rfl := Option.some.inj h
  exact PAl.selkielaw11_alive.calls true w hT rfl (by decide +kernel)
end Go.Proofs.YtpgpmldaggpciaaDoor.GW
