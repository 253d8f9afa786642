/- The plain laws of layer 1. -/
import Derived.Test.YtbmenmcjlidadaaDoorRef01
import Derived.Test.YtbmenmcjlidadaaDoorPAllx0
import Derived.Test.YtbmenmcjlidadaaDoorPAllx2
import Derived.Test.YtbmenmcjlidadaaDoorPAllx3
set_option linter.unusedVariables false
set_option linter.unusedSimpArgs false
namespace Go.Proofs.YtbmenmcjlidadaaDoor.Laws01
open Go.RowKit Go.Proofs.YtbmenmcjlidadaaDoor.PAll Go.Proofs.YtbmenmcjlidadaaDoorW.PrintWords Go.Proofs.YtbmenmcjlidadaaDoorW.PrintLast Go.Proofs.YtbmenmcjlidadaaDoorW.PrintMore Go.Proofs.YtbmenmcjlidadaaDoor.Maths Go.Proofs.YtbmenmcjlidadaaDoor.TabW Go.Proofs.YtbmenmcjlidadaaDoor.Val Go.Proofs.YtbmenmcjlidadaaDoor.Ref01
def greatB (l : List S23) : Bool := l.any fun v => decide (100000 < v.f2.size)
theorem great_loop (l : List S23) (hm : l.length ≤ 3) (d : Nat) : ∀ (k i : Nat), i + d = l.length → d < k → selkielaw01_great.l0 k l (l.length : Int) (i : Int) = some (greatB (l.drop i)) := by
  induction d with
  | zero =>
    intro k i h hk
    obtain ⟨k, rfl⟩ : ∃ j, k = j + 1 := ⟨k - 1, by omega⟩
    rw [selkielaw01_great.l0, if_neg (by omega), List.drop_eq_nil_of_le (by omega)]; rfl
  | succ d ih =>
    intro k i h hk
    obtain ⟨k, rfl⟩ : ∃ j, k = j + 1 := ⟨k - 1, by omega⟩
    rw [selkielaw01_great.l0, if_pos (by omega), if_pos (by omega), if_pos (by omega)]
    have hi : i < l.length := by omega
    have e : rd_T23 l (i : Int) = l[i] := by unfold rd_T23; rw [Int.toNat_natCast, List.getD_eq_getElem?_getD, List.getElem?_eq_getElem hi]; rfl
    rw [e, List.drop_eq_getElem_cons hi]
    by_cases hg : ((l[i].f2.size : Nat) : Int) > 100000
    · rw [if_pos hg]; congr 1; unfold greatB; rw [List.any_cons, decide_eq_true (by omega), Bool.true_or]
    · rw [if_neg hg, wrap64_in (by omega)]
      have := ih k (i + 1) (by omega) (by omega)
      rw [show ((i : Int) + 1) = ((i + 1 : Nat) : Int) by omega, this]; congr 1; unfold greatB; rw [List.any_cons, decide_eq_false (by omega), Bool.false_or]
theorem great_is (k : Nat) (l : List S23) (hm : l.length ≤ 3) : selkielaw01_great.f (k + 4) l = some (greatB l) := by
  unfold selkielaw01_great.f
  have := great_loop l hm l.length (k + 4) 0 (by omega) (by omega)
  simpa using this


theorem print7 : printS 2 (-7) ⟨#[]⟩ = ⟨#[45, 55]⟩ := by unfold printS itoaS; simp [Lib.itoa]; rw [Lib.decDigits_one (by omega)]; rfl
theorem alive_is : selkielaw01_alive.f = some true := by
  unfold selkielaw01_alive.f
  simp only [value_OfStr.f, value_OfInt.f, value_OfBool.f, Option.bind_some, less_is, key_is, raw_is, truth_is, if_true, if_neg (show ¬ (false = true) by decide)]
  rw [print_is _ _ _ (by decide), print7]
  decide +kernel
end Go.Proofs.YtbmenmcjlidadaaDoor.Laws01
