/- The reference's digits of a number. -/
import Derived.Test.YtpgpmldaggpciaaGreatDoorDigP
import Derived.Test.YtpgpmldaggpciaaGreatDoorConv03b
import Derived.Test.YtpgpmldaggpciaaGreatDoorPAllx4
import Derived.Lib.LazyBuf
import Derived.Lib.ItoaNum
set_option linter.unusedVariables false
set_option linter.unusedSimpArgs false
namespace Go.Proofs.YtpgpmldaggpciaaGreatDoor.Conv03
open Go.RowKit Go.Proofs.YtpgpmldaggpciaaGreatDoor.PAll Go.Proofs.YtpgpmldaggpciaaGreatDoorW.PrintWords Go.Proofs.YtpgpmldaggpciaaGreatDoorW.PrintLast Go.Proofs.YtpgpmldaggpciaaGreatDoorW.PrintMore Go.Proofs.YtpgpmldaggpciaaGreatDoor.Maths Go.Proofs.YtpgpmldaggpciaaGreatDoor.TabW
theorem digits_pos (m : Nat) : ∀ n : Nat, n ≤ m → n ≤ 9223372036854775807 → ∀ k, 3 * n + 3 ≤ k → selkieref01_Digits.f k (n : Int) = some ⟨(Lib.decDigits n).toArray⟩ := by
  induction m with
  | zero =>
    intro n hn hm k hk
    obtain rfl : n = 0 := by omega
    obtain ⟨k, rfl⟩ : ∃ j, k = j + 2 := ⟨k - 2, by omega⟩
    simp [selkieref01_Digits.f, selkieref01_Digits.j0]
    rw [Lib.decDigits_one (by omega)]; decide +kernel
  | succ m ih =>
    intro n hn hm k hk
    obtain ⟨k, rfl⟩ : ∃ j, k = j + 3 := ⟨k - 3, by omega⟩
    rw [selkieref01_Digits.f, if_pos (by omega)]
    by_cases h10 : n < 10
    · rw [decide_eq_true (by omega : (n : Int) < 10), selkieref01_Digits.j0, if_pos rfl, one_digit n h10, Lib.decDigits_one h10]
    · rw [decide_eq_false (by omega : ¬ (n : Int) < 10), selkieref01_Digits.j0, if_neg (by decide), if_neg (by omega), selkieref01_Digits.j1, if_neg (by decide)]
      have e1 : Int.tmod (n : Int) 10 = ((n % 10 : Nat) : Int) := by rw [Int.tmod_eq_emod_of_nonneg (by omega)]; simp
      have e2 : Int.tdiv (n : Int) 10 = ((n / 10 : Nat) : Int) := by rw [Int.tdiv_eq_ediv_of_nonneg (by omega)]; simp
      rw [e1, e2, if_neg (by omega), wrap64_in (by omega), ih (n / 10) (by omega) (by omega) k (by omega)]
      simp only [Option.bind_some]
      have hl := dec_len (n / 10) (by omega)
      have hz : (strOfNums [(wrap64 (48 + ((n % 10 : Nat) : Int))) % 256]).size = 1 := by rw [one_digit _ (by omega)]; rfl
      rw [hz, size_mk, if_pos (by omega), push_digit _ _ (by omega), ← dec_big n h10]
theorem digits_neg (m : Nat) : ∀ n : Nat, n ≤ m → 0 < n → n ≤ 9223372036854775808 → ∀ k, 3 * n + 3 ≤ k → selkieref01_Digits.f k (-(n : Int)) = some ⟨(45 :: Lib.decDigits n).toArray⟩ := by
  induction m with
  | zero => intro n hn hp; omega
  | succ m ih =>
    intro n hn hp hm k hk
    obtain ⟨k, rfl⟩ : ∃ j, k = j + 3 := ⟨k - 3, by omega⟩
    rw [selkieref01_Digits.f, if_neg (by omega), selkieref01_Digits.j0, if_neg (by decide), if_pos (by omega)]
    by_cases h10 : n < 10
    · rw [decide_eq_true (by omega : -(n : Int) > -10), selkieref01_Digits.j1, if_pos rfl, Lib.decDigits_one h10]
      rw [wrap64_in (by omega)]
      have e : (48 - -(n : Int)) % 256 = 48 + n := by omega
      rw [e]; unfold strOfNums
      have e2 : (48 + (n : Int)).toNat = 48 + n := by omega
      simp [e2]
    · rw [decide_eq_false (by omega : ¬ -(n : Int) > -10), selkieref01_Digits.j1, if_neg (by decide)]
      have e1 : Int.tmod (-(n : Int)) 10 = -((n % 10 : Nat) : Int) := by rw [Int.neg_tmod, Int.tmod_eq_emod_of_nonneg (by omega)]; simp
      have e2 : Int.tdiv (-(n : Int)) 10 = -((n / 10 : Nat) : Int) := by rw [Int.neg_tdiv, Int.tdiv_eq_ediv_of_nonneg (by omega)]; simp
      have hl := dec_len (n / 10) (by omega)
      have hw : wrap64 (- -((n % 10 : Nat) : Int)) = ((n % 10 : Nat) : Int) := by rw [wrap64_in (by omega)]; omega
      have hw2 : wrap64 (-((n / 10 : Nat) : Int)) = -((n / 10 : Nat) : Int) := wrap64_in (by omega)
      have hz : (strOfNums [(wrap64 (48 + ((n % 10 : Nat) : Int))) % 256]).size = 1 := by rw [one_digit _ (by omega)]; rfl
      have fin : (⟨(45 :: Lib.decDigits (n / 10)).toArray⟩ : ByteArray) ++ strOfNums [(wrap64 (48 + ((n % 10 : Nat) : Int))) % 256] = ⟨(45 :: Lib.decDigits n).toArray⟩ := by
        rw [push_digit _ _ (by omega), dec_big n h10]; rfl
      rw [e1, e2, hw2, ih (n / 10) (by omega) (by omega) (by omega) k (by omega)]
      simp only [Option.bind_some]
      by_cases hz0 : n % 10 = 0
      · rw [if_neg (by omega)]
        have e3 : -((n % 10 : Nat) : Int) = ((n % 10 : Nat) : Int) := by omega
        rw [e3, hz, size_mk, if_pos (by simp; omega), fin]
      · rw [if_pos (by omega), hw, hz, size_mk, if_pos (by simp; omega), fin]
theorem rdigits_is (n : Int) (hn : -9223372036854775808 ≤ n ∧ n ≤ 9223372036854775807) : ∃ K, ∀ k, K ≤ k → selkieref01_Digits.f k n = some (itoaS n) := by
  by_cases h : n < 0
  · obtain ⟨m, rfl⟩ : ∃ m : Nat, n = -(m : Int) := ⟨n.natAbs, by omega⟩
    refine ⟨3 * m + 3, fun k hk => ?_⟩
    rw [digits_neg m m (Nat.le_refl _) (by omega) (by omega) _ hk]
    unfold itoaS; rw [itoa_neg m (by omega)]
  · obtain ⟨m, rfl⟩ := Int.eq_ofNat_of_zero_le (show 0 ≤ n by omega)
    refine ⟨3 * m + 3, fun k hk => ?_⟩
    rw [digits_pos m m (Nat.le_refl _) (by omega) _ hk]
    unfold itoaS; rw [itoa_pos m]
end Go.Proofs.YtpgpmldaggpciaaGreatDoor.Conv03
