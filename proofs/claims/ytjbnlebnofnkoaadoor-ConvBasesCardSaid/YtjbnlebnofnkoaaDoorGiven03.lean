/- The calls of conv, by what they answer. -/
import Derived.Test.YtjbnlebnofnkoaaDoorLaw03
import Derived.Test.YtjbnlebnofnkoaaDoorPAllx1
import Derived.Test.YtjbnlebnofnkoaaDoorPAllx2
set_option linter.unusedVariables false
set_option linter.unusedSimpArgs false
namespace Go.Proofs.YtjbnlebnofnkoaaDoor.Conv03
open Go.RowKit Go.Proofs.YtjbnlebnofnkoaaDoor.PAll Go.Proofs.YtjbnlebnofnkoaaDoorW.PrintWords Go.Proofs.YtjbnlebnofnkoaaDoorW.PrintLast Go.Proofs.YtjbnlebnofnkoaaDoorW.PrintMore Go.Proofs.YtjbnlebnofnkoaaDoor.Maths Go.Proofs.YtjbnlebnofnkoaaDoor.ConvP Go.Proofs.YtjbnlebnofnkoaaDoor.TabW
def GF {α : Type} (s : ByteArray) (x : α) : Option α := if s.size ≤ 140737488351232 then some x else none
theorem GF_some {α : Type} {s : ByteArray} {x r : α} (h : GF s x = some r) : s.size ≤ 140737488351232 ∧ x = r := by
  unfold GF at h; split at h
  · rename_i h1; exact ⟨h1, Option.some.inj h⟩
  · cases h
def baseF (s : ByteArray) (b : Int) : Option (Int × Bool) := GF s (baseT b (trimB s))
def toIntF (s : ByteArray) : Option (Int × Bool) := GF s (toIntT (trimB s))
def numeral2F (s : ByteArray) : Option (Int × Bool) := GF s (numL s.data.toList 9223372036854775807)
def printF (n : Int) : Option ByteArray := fmtF n 10
def aliveF : Option Bool := some true
theorem base_calls (s : ByteArray) (b : Int) (r1 : Int) (r2 : Bool) (w : World) (hT : Tab w) (h : baseF s b = some (r1, r2)) :
    Calls Tryd.prog 13 #[.string s, .int .i64 b] w fun e w' => e = .returned (.tuple #[.int .i64 r1, .bool r2]) ∧ Below w.heap.size w w' := by
  obtain ⟨hs, hr⟩ := GF_some h
  exact conv_Base.calls _ s b r1 r2 w (by rw [base_is s b hs _ (Nat.le_refl _), hr])
theorem toInt_calls (s : ByteArray) (r1 : Int) (r2 : Bool) (w : World) (hT : Tab w) (h : toIntF s = some (r1, r2)) :
    Calls Tryd.prog 11 #[.string s] w fun e w' => e = .returned (.tuple #[.int .i64 r1, .bool r2]) ∧ Below w.heap.size w w' := by
  obtain ⟨hs, hr⟩ := GF_some h
  exact conv_ToInt.calls s r1 r2 w hT (by rw [toInt_is s hs, hr])
theorem numeral2_calls (s : ByteArray) (r1 : Int) (r2 : Bool) (w : World) (hT : Tab w) (h : numeral2F s = some (r1, r2)) :
    Calls Tryd.prog 9 #[.string s] w fun e w' => e = .returned (.tuple #[.int .i64 r1, .bool r2]) ∧ Below w.heap.size w w' := by
  obtain ⟨hs, hr⟩ := GF_some h
  exact conv_Numeral.calls s r1 r2 w hT (by rw [numeral_is s hs, hr])
theorem print_calls (n : Int) (r : ByteArray) (w : World) (hT : Tab w) (h : printF n = some r) :
    Calls Tryd.prog 15 #[.int .i64 n] w fun e w' => e = .returned (.string r) ∧ Below w.heap.size w w' :=
  conv_Print.calls n r w hT (by unfold conv_Print.f strconv_FormatInt.f; unfold printF at h; rw [h]; rfl)
theorem alive_calls (r : Bool) (w : World) (hT : Tab w) (h : aliveF = some r) :
    Calls Tryd.prog 8 #[] w fun e w' => e = .returned (.bool r) ∧ Below w.heap.size w w' :=
  selkielaw03_alive.calls 20 r w hT (by rw [alive_is]; exact h)
end Go.Proofs.YtjbnlebnofnkoaaDoor.Conv03
namespace Go.Proofs.YtjbnlebnofnkoaaDoor.TabW
theorem size1 (a : UInt8) : (⟨#[a]⟩ : ByteArray).size = 1 := rfl
theorem size2 (a b : UInt8) : (⟨#[a, b]⟩ : ByteArray).size = 2 := rfl
theorem size3 (a b c : UInt8) : (⟨#[a, b, c]⟩ : ByteArray).size = 3 := rfl
end Go.Proofs.YtjbnlebnofnkoaaDoor.TabW
