/- The plain law of ValueMade. -/
import Derived.Test.YtbmenmcjlidadaaDoorValMade
import Derived.Test.YtbmenmcjlidadaaDoorPMadex2
import Derived.Test.YtbmenmcjlidadaaDoorPMadex3
import Derived.Test.YtbmenmcjlidadaaDoorPMadex4
import Derived.Lib.ItoaNum
set_option linter.unusedVariables false
set_option linter.unusedSimpArgs false
namespace Go.Proofs.YtbmenmcjlidadaaDoor.LawMade
open Go.RowKit Go.Proofs.YtbmenmcjlidadaaDoor.PMade Go.Proofs.YtbmenmcjlidadaaDoorW.PrintWords Go.Proofs.YtbmenmcjlidadaaDoorW.PrintLast Go.Proofs.YtbmenmcjlidadaaDoorW.PrintMore Go.Proofs.YtbmenmcjlidadaaDoor.Maths Go.Proofs.YtbmenmcjlidadaaDoor.TabW Go.Proofs.YtbmenmcjlidadaaDoor.ValMade
theorem print7 : printS 2 (-7) ⟨#[]⟩ = ⟨#[45, 55]⟩ := by unfold printS itoaS; simp [Lib.itoa]; rw [Lib.decDigits_one (by omega)]; rfl
theorem alive_is : selkielaw01_alive.f = some true := by
  unfold selkielaw01_alive.f
  simp only [value_OfStr.f, value_OfInt.f, value_OfBool.f, Option.bind_some, less_is, key_is, raw_is, truth_is, if_true, if_neg (show ¬ (false = true) by decide)]
  rw [print_is _ _ _ (by decide), print7]
  decide +kernel
theorem made (n : Int) (s : ByteArray) (b : Bool) : selkielaw01_ValueMade.f n s b = some true := by
  unfold selkielaw01_ValueMade.f
  rw [alive_is]; simp only [Option.bind_some, if_true]
  by_cases hs : (s.size : Int) > 100000
  · rw [if_pos hs]
  rw [if_neg hs]
  have e1 : value_OfBool.f b = some (1, (if b then 1 else 0), ⟨#[]⟩) := by cases b <;> rfl
  rw [e1]
  simp only [value_OfInt.f, value_OfStr.f, Option.bind_some]
  have e2 : (⟨#[]⟩ : ByteArray).toList = [] := by rw [ByteArray.toList_eq]
  rw [if_pos (by simp [e2]), if_pos (by simp), print_is _ _ _ (by decide)]; simp only [Option.bind_some]
  have e3 : printS 3 0 s = s := rfl
  rw [e3, if_pos rfl, truth_is]; simp only [Option.bind_some]
  have e4 : truthB 1 (if b then 1 else 0) = b := by cases b <;> rfl
  rw [e4, if_pos (by simp), own_is]; simp only [Option.bind_some, if_true]
  have e5 : (ownK 1 == 1 && (ownN 1 (if b then 1 else 0) == (if b then 1 else 0) && ((ownS 1 ⟨#[]⟩).toList == (⟨#[]⟩ : ByteArray).toList))) = true := by cases b <;> decide +kernel
  rw [if_pos e5, truth_is]; simp only [Option.bind_some]
  have e6 : truthB 2 n = true := by simp [truthB]
  have e7 : truthB 3 0 = true := rfl
  rw [e6, if_pos rfl, truth_is]; simp only [Option.bind_some]
  rw [e7, if_pos rfl, type_is]; simp only [Option.bind_some]
  have e8 : (typeS 2).toList = [110, 117, 109, 98, 101, 114] := by decide +kernel
  have e9 : (typeS 3).toList = [115, 116, 114, 105, 110, 103] := by decide +kernel
  rw [e8, if_pos rfl, type_is]; simp only [Option.bind_some]
  rw [e9]; rfl
theorem made_walk (n : Int) (s : ByteArray) (b : Bool) (w : World) (hT : Tab w) :
    Calls Tryd.prog 7 #[.int .i64 n, .string s, .bool b] w fun e w' => e = .returned (.bool true) ∧ Below w.heap.size w w' :=
  selkielaw01_ValueMade.calls n s b true w hT rfl (made n s b)
end Go.Proofs.YtbmenmcjlidadaaDoor.LawMade
