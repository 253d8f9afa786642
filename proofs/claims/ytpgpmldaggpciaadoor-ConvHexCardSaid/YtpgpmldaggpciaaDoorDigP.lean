/- The reference's digits of a number. -/
import Derived.Test.YtpgpmldaggpciaaDoorConvB
import Derived.Lib.LazyBuf
import Derived.Lib.ItoaNum
set_option linter.unusedVariables false
set_option linter.unusedSimpArgs false
namespace Go.Proofs.YtpgpmldaggpciaaDoor.Conv03
open Go.RowKit Go.Proofs.YtpgpmldaggpciaaDoor.PAll Go.Proofs.YtpgpmldaggpciaaDoorW.PrintWords Go.Proofs.YtpgpmldaggpciaaDoorW.PrintLast Go.Proofs.YtpgpmldaggpciaaDoorW.PrintMore Go.Proofs.YtpgpmldaggpciaaDoor.Maths Go.Proofs.YtpgpmldaggpciaaDoor.TabW
/-- the digits of a number -/
theorem one_digit (m : Nat) (h : m < 10) : strOfNums [(wrap64 (48 + (m : Int))) % 256] = ⟨#[UInt8.ofNat (48 + m)]⟩ := by
  rw [wrap64_in (by omega)]
  unfold strOfNums
  have : ((48 + (m : Int)) % 256).toNat = 48 + m := by omega
  simp [this]
theorem push_digit (l : List UInt8) (m : Nat) (h : m < 10) : (⟨l.toArray⟩ : ByteArray) ++ strOfNums [(wrap64 (48 + (m : Int))) % 256] = ⟨(l ++ [UInt8.ofNat (48 + m)]).toArray⟩ := by
  rw [one_digit m h]
  apply WideShapes.bytes_inj
  rw [ByteArray.data_append]; simp
theorem itoa_pos (n : Nat) : Lib.itoa (n : Int) = Lib.decDigits n := by unfold Lib.itoa; rw [if_neg (by omega)]; simp
theorem itoa_neg (n : Nat) (h : 0 < n) : Lib.itoa (-(n : Int)) = 45 :: Lib.decDigits n := by unfold Lib.itoa; rw [if_pos (by omega)]; simp
theorem dec_big (n : Nat) (h : ¬ n < 10) : Lib.decDigits n = Lib.decDigits (n / 10) ++ [UInt8.ofNat (48 + n % 10)] := by rw [Lib.decDigits, dif_neg h]
theorem nDigits_le (u : Nat) (h : u < 10 ^ 20) : Lib.nDigits u ≤ 20 := by
  apply Classical.byContradiction; intro hc
  have h1 := Lib.decDigits_length u
  have : ∀ (k u : Nat), u < 10 ^ (k + 1) → Lib.nDigits u ≤ k + 1 := by
    intro k
    induction k with
    | zero => intro u hu; rw [Lib.nDigits_small (by omega)]; omega
    | succ k ih =>
      intro u hu
      by_cases hs : u < 10
      · rw [Lib.nDigits_small hs]; omega
      · rw [Lib.nDigits_big hs]
        have := ih (u / 10) (by rw [Nat.pow_succ] at hu; omega)
        omega
  have := this 19 u h
  omega
theorem dec_len (u : Nat) (h : u ≤ 9223372036854775808) : (Lib.decDigits u).length ≤ 20 := by
  rw [Lib.decDigits_length]; exact nDigits_le u (by omega)
theorem size_mk (l : List UInt8) : (⟨l.toArray⟩ : ByteArray).size = l.length := by simp [ByteArray.size]
end Go.Proofs.YtpgpmldaggpciaaDoor.Conv03
