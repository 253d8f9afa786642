/- The document's examples of layer 11: the call's contract. -/
import Derived.Test.YtpgpmldaggpciaaGreatDoorPAlm0
set_option linter.unusedVariables false
set_option linter.unusedSimpArgs false
namespace Go.Proofs.YtpgpmldaggpciaaGreatDoor.GW
open Go.RowKit Go.Proofs.YtpgpmldaggpciaaGreatDoorW.PrintWords Go.Proofs.YtpgpmldaggpciaaGreatDoorW.PrintLast Go.Proofs.YtpgpmldaggpciaaGreatDoorW.PrintMore Go.Proofs.YtpgpmldaggpciaaGreatDoor.Maths Go.Proofs.YtpgpmldaggpciaaGreatDoor.TabW
def aliveF : Option Bool := some true
theorem alive_calls (r : Bool) (w : World) (hT : Tab w) (h : aliveF = some r) : Calls Tryz.prog 5 #[] w fun e w' => e = .returned (.bool r) ∧ Below w.heap.size w w' := by
  obtain rfl := Option.some.inj h
  exact PAl.selkielaw11_alive.calls true w hT rfl (by decide +kernel)
end Go.Proofs.YtpgpmldaggpciaaGreatDoor.GW
