/- Three closed facts of the program that every row of this seat asks for: shown once. -/
import Derived.Test.YtmjfmfelbmbniaaRows
namespace Go.Proofs.Ytmjfmfelbmbniaa.Facts
open Go
theorem heard : (Try.checked.prog.stopsHeard) = true := by kernel_rfl
theorem enter : (Try.checked.prog.mayEnter) = true := by kernel_rfl
theorem lifts : (false == Try.checked.prog.liftsFinal) = true := by kernel_rfl
end Go.Proofs.Ytmjfmfelbmbniaa.Facts
