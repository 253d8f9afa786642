/- Small facts that the print's ends want. -/
namespace Go.Proofs.YtpgpmldaggpciaaDoor.TabW
theorem bclose (t : Bool) (l : List UInt8) : (t == !l.isEmpty) = !t != (l != []) := by cases l <;> cases t <;> rfl
theorem bclose2 (l : List UInt8) : l.isEmpty = !l != [] := by cases l <;> rfl
theorem beq_nil (l : List UInt8) : (l == ([] : List UInt8)) = l.isEmpty := by cases l <;> rfl
end Go.Proofs.YtpgpmldaggpciaaDoor.TabW
