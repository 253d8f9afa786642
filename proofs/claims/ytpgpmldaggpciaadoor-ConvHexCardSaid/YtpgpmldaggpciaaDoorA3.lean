/- The document's examples of layer 3: the call's contract. -/
import Derived.Test.YtpgpmldaggpciaaDoorG03
import Derived.Test.YtpgpmldaggpciaaDoorPA3x
set_option linter.unusedVariables false
set_option linter.unusedSimpArgs false
namespace Go.Proofs.YtpgpmldaggpciaaDoor.Conv03
open Go.RowKit Go.Proofs.YtpgpmldaggpciaaDoor.PA3 Go.Proofs.YtpgpmldaggpciaaDoorW.PrintWords Go.Proofs.YtpgpmldaggpciaaDoorW.PrintLast Go.Proofs.YtpgpmldaggpciaaDoorW.PrintMore Go.Proofs.YtpgpmldaggpciaaDoor.Maths Go.Proofs.YtpgpmldaggpciaaDoor.ConvP Go.Proofs.YtpgpmldaggpciaaDoor.TabW
theorem print20 : itoaS (-20) = ⟨#[45, 50, 48]⟩ := by
  have : Lib.itoa (-20) = [45, 50, 48] := by
    have := itoa_neg 20 (by decide)
    rw [dec_big 20 (by decide), Lib.decDigits_one (by decide)] at this
    exact this
  unfold itoaS; rw [this]
theorem alive_is : selkielaw03_alive.f = some true := by
  unfold selkielaw03_alive.f
  have e : conv_Print.f (-20) = some ⟨#[45, 50, 48]⟩ := by unfold conv_Print.f printF fmtF; rw [if_pos (by decide), print20]
  rw [e]
  decide +kernel
theorem alive_calls (w : World) (hT : Tab w) :
    Calls Tryd.prog 12 #[] w fun e w' => e = .returned (.bool true) ∧ Below w.heap.size w w' :=
  selkielaw03_alive.calls true w hT rfl alive_is
end Go.Proofs.YtpgpmldaggpciaaDoor.Conv03
