/- The reference's digits of a number. -/
import Derived.Test.YtpgpmldaggpciaaDoorConv03b
import Derived.Test.YtpgpmldaggpciaaDoorPAllx5
import Derived.Lib.LazyBuf
import Derived.Lib.ItoaNum
set_option linter.unusedVariables false
set_option linter.unusedSimpArgs false
namespace Go.Proofs.YtpgpmldaggpciaaDoor.Conv03
open Go.RowKit Go.Proofs.YtpgpmldaggpciaaDoor.PAll Go.Proofs.YtpgpmldaggpciaaDoorW.PrintWords Go.Proofs.YtpgpmldaggpciaaDoorW.PrintLast Go.Proofs.YtpgpmldaggpciaaDoorW.PrintMore Go.Proofs.YtpgpmldaggpciaaDoor.Maths Go.Proofs.YtpgpmldaggpciaaDoor.TabW
/-- the digits of a number -/
theorem one_digit (m : Nat) (h : m < 10) : strOfNums [(wrap64 (48 + (m : Int))) % 256] = ⟨#[UInt8.ofNat (48 + m)]⟩ := by
  rw [wrap64_in (by omega)]
  unfold strOfNums
  have : ((48 + (m : Int)) % 256).toNat = 48 + m := by omega
  simp [this]
theorem push_digit (l : List UInt8) (m : Nat) (h : m < 10) : (⟨l.toArray⟩ : ByteArray) ++ strOfNums [(wrap64 (48 + (m : Int))) % 256] = ⟨(l ++ [UInt8.ofNat (48 + m)]).toArray⟩ := by
  rw [one_digit m h]
  apply WideShapes.bytes_inj
  rw [ByteArray.data_append]; simp
theorem itoa_pos (n : Nat) : Lib.itoa (n : Int) = Lib.decDigits n := by unfold Lib.itoa; rw [if_neg (by omega)]; simp
theorem itoa_neg (n : Nat) (h : 0 < n) : Lib.itoa (-(n : Int)) = 45 :: Lib.decDigits n := by unfold Lib.itoa; rw [if_pos (by omega)]; simp
theorem dec_big (n : Nat) (h : ¬ n < 10) : Lib.decDigits n = Lib.decDigits (n / 10) ++ [UInt8.ofNat (48 + n % 10)] := by rw [Lib.decDigits, dif_neg h]
theorem nDigits_le (u : Nat) (h : u < 10 ^ 20) : Lib.nDigits u ≤ 20 := by
  apply Classical.byContradiction; intro hc
  have h1 := Lib.decDigits_length u
  have : ∀ (k u : Nat), u < 10 ^ (k + 1) → Lib.nDigits u ≤ k + 1 := by
    intro k
    induction k with
    | zero => intro u hu; rw [Lib.nDigits_small (by omega)]; omega
    | succ k ih =>
      intro u hu
      by_cases hs : u < 10
      · rw [Lib.nDigits_small hs]; omega
      · rw [Lib.nDigits_big hs]
        have := ih (u / 10) (by rw [Nat.pow_succ] at hu; omega)
        omega
  have := this 19 u h
  omega
theorem dec_len (u : Nat) (h : u ≤ 9223372036854775808) : (Lib.decDigits u).length ≤ 20 := by
  rw [Lib.decDigits_length]; exact nDigits_le u (by omega)
theorem size_mk (l : List UInt8) : (⟨l.toArray⟩ : ByteArray).size = l.length := by simp [ByteArray.size]
theorem digits_pos (m : Nat) : ∀ n : Nat, n ≤ m → n ≤ 9223372036854775807 → ∀ k, 3 * n + 3 ≤ k → selkieref01_Digits.f k (n : Int) = some ⟨(Lib.decDigits n).toArray⟩ := by
  induction m with
  | zero =>
    intro n hn hm k hk
    obtain rfl : n = 0 := by omega
    obtain ⟨k, rfl⟩ : ∃ j, k = j + 2 := ⟨k - 2, by omega⟩
    simp [selkieref01_Digits.f, selkieref01_Digits.j0]
    rw [Lib.decDigits_one (by omega)]; decide +kernel
  | succ m ih =>
    intro n hn hm k hk
    obtain ⟨k, rfl⟩ : ∃ j, k = j + 3 := ⟨k - 3, by omega⟩
    rw [selkieref01_Digits.f, if_pos (by omega)]
    by_cases h10 : n < 10
    · rw [decide_eq_true (by omega : (n : Int) < 10), selkieref01_Digits.j0, if_pos rfl, one_digit n h10, Lib.decDigits_one h10]
    · rw [decide_eq_false (by omega : ¬ (n : Int) < 10), selkieref01_Digits.j0, if_neg (by decide), if_neg (by omega), selkieref01_Digits.j1, if_neg (by decide)]
      have e1 : Int.tmod (n : Int) 10 = ((n % 10 : Nat) : Int) := by rw [Int.tmod_eq_emod_of_nonneg (by omega)]; simp
      have e2 : Int.tdiv (n : Int) 10 = ((n / 10 : Nat) : Int) := by rw [Int.tdiv_eq_ediv_of_nonneg (by omega)]; simp
      rw [e1, e2, if_neg (by omega), wrap64_in (by omega), ih (n / 10) (by omega) (by omega) k (by omega)]
      simp only [Option.bind_some]
      have hl := dec_len (n / 10) (by omega)
      have hz : (strOfNums [(wrap64 (48 + ((n % 10 : Nat) : Int))) % 256]).size = 1 := by rw [one_digit _ (by omega)]; rfl
      rw [hz, size_mk, if_pos (by omega), push_digit _ _ (by omega), ← dec_big n h10]
theorem digits_neg (m : Nat) : ∀ n : Nat, n ≤ m → 0 < n → n ≤ 9223372036854775808 → ∀ k, 3 * n + 3 ≤ k → selkieref01_Digits.f k (-(n : Int)) = some ⟨(45 :: Lib.decDigits n).toArray⟩ := by
  induction m with
  | zero => intro n hn hp; omega
  | succ m ih =>
    intro n hn hp hm k hk
    obtain ⟨k, rfl⟩ : ∃ j, k = j + 3 := ⟨k - 3, by omega⟩
    rw [selkieref01_Digits.f, if_neg (by omega), selkieref01_Digits.j0, if_neg (by decide), if_pos (by omega)]
    by_cases h10 : n < 10
    · rw [decide_eq_true (by omega : -(n : Int) > -10), selkieref01_Digits.j1, if_pos rfl, Lib.decDigits_one h10]
      rw [wrap64_in (by omega)]
      have e : (48 - -(n : Int)) % 256 = 48 + n := by omega
      rw [e]; unfold strOfNums
      have e2 : (48 + (n : Int)).toNat = 48 + n := by omega
      simp [e2]
    · rw [decide_eq_false (by omega : ¬ -(n : Int) > -10), selkieref01_Digits.j1, if_neg (by decide)]
      have e1 : Int.tmod (-(n : Int)) 10 = -((n % 10 : Nat) : Int) := by rw [Int.neg_tmod, Int.tmod_eq_emod_of_nonneg (by omega)]; simp
      have e2 : Int.tdiv (-(n : Int)) 10 = -((n / 10 : Nat) : Int) := by rw [Int.neg_tdiv, Int.tdiv_eq_ediv_of_nonneg (by omega)]; simp
      have hl := dec_len (n / 10) (by omega)
      have hw : wrap64 (- -((n % 10 : Nat) : Int)) = ((n % 10 : Nat) : Int) := by rw [wrap64_in (by omega)]; omega
      have hw2 : wrap64 (-((n / 10 : Nat) : Int)) = -((n / 10 : Nat) : Int) := wrap64_in (by omega)
      have hz : (strOfNums [(wrap64 (48 + ((n % 10 : Nat) : Int))) % 256]).size = 1 := by rw [one_digit _ (by omega)]; rfl
      have fin : (⟨(45 :: Lib.decDigits (n / 10)).toArray⟩ : ByteArray) ++ strOfNums [(wrap64 (48 + ((n % 10 : Nat) : Int))) % 256] = ⟨(45 :: Lib.decDigits n).toArray⟩ := by
        rw [push_digit _ _ (by omega), dec_big n h10]; rfl
      rw [e1, e2, hw2, ih (n / 10) (by omega) (by omega) (by omega) k (by omega)]
      simp only [Option.bind_some]
      by_cases hz0 : n % 10 = 0
      · rw [if_neg (by omega)]
        have e3 : -((n % 10 : Nat) : Int) = ((n % 10 : Nat) : Int) := by omega
        rw [e3, hz, size_mk, if_pos (by simp; omega), fin]
      · rw [if_pos (by omega), hw, hz, size_mk, if_pos (by simp; omega), fin]
theorem rdigits_is (n : Int) (hn : -9223372036854775808 ≤ n ∧ n ≤ 9223372036854775807) : ∃ K, ∀ k, K ≤ k → selkieref01_Digits.f k n = some (itoaS n) := by
  by_cases h : n < 0
  · obtain ⟨m, rfl⟩ : ∃ m : Nat, n = -(m : Int) := ⟨n.natAbs, by omega⟩
    refine ⟨3 * m + 3, fun k hk => ?_⟩
    rw [digits_neg m m (Nat.le_refl _) (by omega) (by omega) _ hk]
    unfold itoaS; rw [itoa_neg m (by omega)]
  · obtain ⟨m, rfl⟩ := Int.eq_ofNat_of_zero_le (show 0 ≤ n by omega)
    refine ⟨3 * m + 3, fun k hk => ?_⟩
    rw [digits_pos m m (Nat.le_refl _) (by omega) _ hk]
    unfold itoaS; rw [itoa_pos m]
end Go.Proofs.YtpgpmldaggpciaaDoor.Conv03
