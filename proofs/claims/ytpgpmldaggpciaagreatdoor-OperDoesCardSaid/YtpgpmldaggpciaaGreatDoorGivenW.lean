/- What conv, value and their references answer, as plain functions, with the calls' contracts. -/
import Derived.Test.YtpgpmldaggpciaaGreatDoorGivenA
import Derived.Test.YtpgpmldaggpciaaGreatDoorDig
import Derived.Test.YtpgpmldaggpciaaGreatDoorValT
import Derived.Test.YtpgpmldaggpciaaGreatDoorPAllx3
import Derived.Test.YtpgpmldaggpciaaGreatDoorPAllx4
set_option linter.unusedVariables false
set_option linter.unusedSimpArgs false
namespace Go.Proofs.YtpgpmldaggpciaaGreatDoor.GW
open Go.RowKit Go.Proofs.YtpgpmldaggpciaaGreatDoor.PAll Go.Proofs.YtpgpmldaggpciaaGreatDoorW.PrintWords Go.Proofs.YtpgpmldaggpciaaGreatDoorW.PrintLast Go.Proofs.YtpgpmldaggpciaaGreatDoorW.PrintMore Go.Proofs.YtpgpmldaggpciaaGreatDoor.Maths Go.Proofs.YtpgpmldaggpciaaGreatDoor.ConvP Go.Proofs.YtpgpmldaggpciaaGreatDoor.TabW Go.Proofs.YtpgpmldaggpciaaGreatDoor.Conv03 Go.Proofs.YtpgpmldaggpciaaGreatDoor.Val
theorem rnumber_is (k n : Int) (s : ByteArray) (hs : s.size ≤ 140737488351232) : selkieref03_Number.f (2 * s.size + 8) k n s = some (numberT k n s) := by
  unfold selkieref03_Number.f numberT
  rw [rtoInt_is s hs _ (Nat.le_refl _)]
  by_cases h2 : k = 2
  · simp only [if_pos h2]
  simp only [if_neg h2]
  by_cases h3 : k = 3
  · simp only [if_pos h3]; rfl
  simp only [if_neg h3]
theorem rstring_is (k n : Int) (s : ByteArray) (hn : -9223372036854775808 ≤ n ∧ n ≤ 9223372036854775807) : ∃ j, selkieref03_String.f j k n s = some (stringT k n s) := by
  obtain ⟨K, hK⟩ := rdigits_is n hn
  refine ⟨K, ?_⟩
  unfold selkieref03_String.f stringT
  rw [hK K (Nat.le_refl _)]
  by_cases h2 : k = 2
  · simp only [if_pos h2]; rfl
  simp only [if_neg h2]
  by_cases h3 : k = 3
  · simp only [if_pos h3]
  simp only [if_neg h3]
theorem rnumber_calls (k n : Int) (s : ByteArray) (r1 : Int) (r2 : Bool) (w : World) (hT : Tab w) (h : rnumberF k n s = some (r1, r2)) :
    Calls Tryz.prog 33 #[.agg #[.int .i64 k, .int .i64 n, .string s]] w fun e w' => e = .returned (.tuple #[.int .i64 r1, .bool r2]) ∧ Below w.heap.size w w' := by
  unfold rnumberF numberF at h
  split at h
  · rename_i hs; exact selkieref03_Number.calls _ k n s r1 r2 w (by rw [rnumber_is k n s hs]; exact h)
  · cases h
theorem rstring_calls (k n : Int) (s : ByteArray) (r1 : ByteArray) (r2 : Bool) (w : World) (hT : Tab w) (h : rstringF k n s = some (r1, r2)) :
    Calls Tryz.prog 35 #[.agg #[.int .i64 k, .int .i64 n, .string s]] w fun e w' => e = .returned (.tuple #[.string r1, .bool r2]) ∧ Below w.heap.size w w' := by
  unfold rstringF stringF at h
  split at h
  · rename_i hn
    obtain ⟨j, hj⟩ := rstring_is k n s hn
    exact selkieref03_String.calls j k n s r1 r2 w (by rw [hj]; exact h)
  · cases h
theorem digits_calls (n : Int) (r : ByteArray) (w : World) (hT : Tab w) (h : digitsF n = some r) :
    Calls Tryz.prog 53 #[.int .i64 n] w fun e w' => e = .returned (.string r) ∧ Below w.heap.size w w' := by
  unfold digitsF fmtF at h
  split at h
  · rename_i hn
    obtain ⟨K, hK⟩ := rdigits_is n hn.2
    exact selkieref01_Digits.calls K n r w (by rw [hK K (Nat.le_refl _)]; exact h)
  · cases h
theorem rtype_calls (k n : Int) (s r : ByteArray) (w : World) (h : rtypeF k n s = some r) :
    Calls Tryz.prog 47 #[.agg #[.int .i64 k, .int .i64 n, .string s]] w fun e w' => e = .returned (.string r) ∧ Below w.heap.size w w' :=
  TabW.rtype_calls k n s r w h
end Go.Proofs.YtpgpmldaggpciaaGreatDoor.GW
