/- The document's examples of layer 11; too many values: both calls' contracts. -/
import Derived.Test.YtpgpmldaggpciaaDoorOper
import Derived.Test.YtpgpmldaggpciaaDoorPDox2
import Derived.Test.YtpgpmldaggpciaaDoorPDox3
import Derived.Test.YtpgpmldaggpciaaDoorPDox6
set_option linter.unusedVariables false
set_option linter.unusedSimpArgs false
namespace Go.Proofs.YtpgpmldaggpciaaDoor.GW
open Go.RowKit Go.Proofs.YtpgpmldaggpciaaDoor.PDo Go.Proofs.YtpgpmldaggpciaaDoorW.PrintWords Go.Proofs.YtpgpmldaggpciaaDoorW.PrintLast Go.Proofs.YtpgpmldaggpciaaDoorW.PrintMore Go.Proofs.YtpgpmldaggpciaaDoor.Maths Go.Proofs.YtpgpmldaggpciaaDoor.TabW Go.Proofs.YtpgpmldaggpciaaDoor.Val
theorem itoa1 (n : Nat) (h : n < 10) : itoaS (n : Int) = ⟨#[UInt8.ofNat (48 + n)]⟩ := by
  unfold itoaS; rw [Conv03.itoa_pos, Lib.decDigits_one h]
theorem alive11_is : selkielaw11_alive.f 5 = some true := by
  have e1 : oper_Do.f 5 1 3 0 ⟨#[49, 48]⟩ 2 1 ⟨#[]⟩ 9 = some (2, 11, ⟨#[]⟩, 0) := by rw [do_is 3 1 3 0 ⟨#[49, 48]⟩ 2 1 ⟨#[]⟩ 9 (by decide) (by decide) (by decide) (by decide)]; decide +kernel
  have e2 : oper_Do.f 5 11 2 1 ⟨#[]⟩ 3 0 ⟨#[97]⟩ 9 = some (3, 0, ⟨#[49, 97]⟩, 0) := by
    rw [do_is 3 11 2 1 ⟨#[]⟩ 3 0 ⟨#[97]⟩ 9 (by decide) (by decide) (by decide) (by decide)]
    have e : stringT 2 1 ⟨#[]⟩ = (⟨#[49]⟩, true) := by unfold stringT; rw [if_pos rfl]; exact congrArg (·, true) (itoa1 1 (by decide))
    unfold doT baseT
    rw [e]
    decide +kernel
  have e3 : oper_Do.f 5 14 2 1 ⟨#[]⟩ 3 0 ⟨#[97]⟩ 9 = some (0, 0, ⟨#[]⟩, 18) := by rw [do_is 3 14 2 1 ⟨#[]⟩ 3 0 ⟨#[97]⟩ 9 (by decide) (by decide) (by decide) (by decide)]; decide +kernel
  unfold selkielaw11_alive.f
  simp only [value_OfStr.f, value_OfInt.f, Option.bind_some, e1, e2, e3]
  decide +kernel
def aliveF : Option Bool := some true
theorem alive_calls (r : Bool) (w : World) (hT : Tab w) (h : aliveF = some r) : Calls Tryd.prog 43 #[] w fun e w' => e = .returned (.bool r) ∧ Below w.heap.size w w' := by
  obtain rfl := Option.some.inj h
  exact selkielaw11_alive.calls 5 true w hT rfl alive11_is
end Go.Proofs.YtpgpmldaggpciaaDoor.GW
