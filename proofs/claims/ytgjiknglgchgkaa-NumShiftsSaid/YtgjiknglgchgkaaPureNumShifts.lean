/- The law NumShifts: a number shifted to the left and back, and to the right and back, keeps all bits but those that were pushed out, and these are noughts. No condition. -/
import Derived.Test.YtgjiknglgchgkaaPNumShiftsx2
import Derived.Test.YtgjiknglgchgkaaMaths
namespace Go.Proofs.Ytgjiknglgchgkaa.Pure
open Go.RowKit Go.Proofs.Ytgjiknglgchgkaa.PNumShifts Go.Proofs.YtgjiknglgchgkaaW.PrintWords Go.Proofs.YtgjiknglgchgkaaW.PrintLast Go.Proofs.YtgjiknglgchgkaaW.PrintMore Go.Proofs.Ytgjiknglgchgkaa.Maths
set_option linter.unusedVariables false
set_option linter.unusedSimpArgs false

theorem NumShifts.shl_B (X : BitVec 64) (n : Int) (h0 : 0 ≤ n) : shl .u64 (X.toNat : Int) n = ((X <<< n.toNat).toNat : Int) := by
  unfold shl; rw [u64_wrap]
  rw [BitVec.toNat_shiftLeft, Nat.shiftLeft_eq]
  show _ % _ = ((_ % 2 ^ 64 : Nat) : Int)
  by_cases h : n.toNat ≤ 64
  · have e : min n.toNat IntKind.u64.bits = n.toNat := Nat.min_eq_left h
    rw [e]; simp
  · have e : min n.toNat IntKind.u64.bits = 64 := Nat.min_eq_right (by show 64 ≤ _; omega)
    rw [e]
    have d : 2 ^ 64 ∣ 2 ^ n.toNat := Nat.pow_dvd_pow 2 (by omega)
    have : X.toNat * 2 ^ n.toNat % 2 ^ 64 = 0 := Nat.mod_eq_zero_of_dvd (Nat.dvd_trans d (Nat.dvd_mul_left ..))
    rw [this]; omega
theorem NumShifts.shr_B (X : BitVec 64) (n : Int) (h0 : 0 ≤ n) : shr .u64 (X.toNat : Int) n = ((X >>> n.toNat).toNat : Int) := by
  unfold shr
  rw [BitVec.toNat_ushiftRight, Nat.shiftRight_eq_div_pow]
  by_cases h : n.toNat ≤ 64
  · have e : min n.toNat IntKind.u64.bits = n.toNat := Nat.min_eq_left h
    rw [e]; simp
  · have e : min n.toNat IntKind.u64.bits = 64 := Nat.min_eq_right (by show 64 ≤ _; omega)
    rw [e]
    have hx := X.isLt
    have p : 2 ^ 64 ≤ 2 ^ n.toNat := Nat.pow_le_pow_right (by decide) (by omega)
    rw [Nat.div_eq_of_lt (by omega)]
    omega
def NumShifts.sh (X : BitVec 64) (n : Int) : BitVec 64 := if n < 0 then X >>> (-n).toNat else X <<< n.toNat
theorem NumShifts.sh_far (X : BitVec 64) (n : Int) (h : n ≥ 64 ∨ n ≤ -64) : NumShifts.sh X n = 0#64 := by
  unfold NumShifts.sh
  by_cases h0 : n < 0
  · rw [if_pos h0]; exact BitVec.ushiftRight_eq_zero (by omega)
  · rw [if_neg h0]; exact BitVec.shiftLeft_eq_zero (by omega)
theorem NumShifts.shift_is (k : Nat) (X : BitVec 64) (n : Int) (hn : -9223372036854775808 ≤ n ∧ n ≤ 9223372036854775807) :
    num_shift.f (k + 1) (X.toNat : Int) n = some ((NumShifts.sh X n).toNat : Int) := by
  unfold num_shift.f
  by_cases h1 : n ≥ 64
  · rw [if_pos h1, NumShifts.sh_far X n (Or.inl h1)]; rfl
  · rw [if_neg h1]
    by_cases h2 : n ≤ -64
    · rw [NumShifts.sh_far X n (Or.inr h2)]; simp [num_shift.j0, h2]
    · simp only [num_shift.j0]
      rw [if_neg (by simp; omega)]
      unfold NumShifts.sh
      have hw : wrap64 (-n) = -n := wrap64_in (by omega)
      rw [hw]
      by_cases h0 : n < 0
      · rw [if_pos h0, if_pos h0, if_pos (by omega), NumShifts.shr_B X _ (by omega)]
      · rw [if_neg h0, if_neg h0, if_pos (by omega), NumShifts.shl_B X _ (by omega)]
theorem NumShifts.do_shl (k : Nat) (a b : Int) (hb : -9223372036854775808 ≤ b ∧ b ≤ 9223372036854775807) :
    num_Do.f (k + 2) 9 a b = some ((NumShifts.sh (B a) b).toInt, 0) := by
  simp [num_Do.f, num_Do.j0, u64_B, NumShifts.shift_is k _ b hb, wrap64_B, B_toNat]
theorem NumShifts.do_shr (k : Nat) (a b : Int) (hb : -9223372036854775808 ≤ b ∧ b ≤ 9223372036854775807) :
    num_Do.f (k + 2) 10 a b = some ((NumShifts.sh (B a) (-b)).toInt, 0) := by
  by_cases h : b = -9223372036854775808
  · rw [NumShifts.sh_far _ _ (by omega)]; simp [num_Do.f, num_Do.j0, h]
  · have hw : wrap64 (-b) = -b := wrap64_in (by omega)
    simp [num_Do.f, num_Do.j0, h, u64_B, hw, NumShifts.shift_is k _ (-b) (by omega)]
    rw [wrap64_B, B_toNat]

theorem NumShifts.alive : selkielaw02_alive.f 3 = some true := by decide +kernel
theorem NumShifts.left_right (A : BitVec 64) (m : Nat) (hm : m < 64) : (A <<< m) >>> m = A &&& (18446744073709551615#64 >>> m) := by
  rw [show (18446744073709551615#64) = BitVec.allOnes 64 from by decide]
  apply BitVec.eq_of_getLsbD_eq; intro i hi
  simp only [BitVec.getLsbD_and, BitVec.getLsbD_ushiftRight, BitVec.getLsbD_shiftLeft, BitVec.getLsbD_allOnes]
  have e : m + i - m = i := by omega
  have h1 : ¬ m + i < m := by omega
  rw [e]; by_cases h : m + i < 64 <;> simp [h, h1]
theorem NumShifts.right_left (A : BitVec 64) (m : Nat) (hm : m < 64) : (A >>> m) <<< m = A &&& (18446744073709551615#64 <<< m) := by
  rw [show (18446744073709551615#64) = BitVec.allOnes 64 from by decide]
  apply BitVec.eq_of_getLsbD_eq; intro i hi
  simp only [BitVec.getLsbD_and, BitVec.getLsbD_ushiftRight, BitVec.getLsbD_shiftLeft, BitVec.getLsbD_allOnes]
  by_cases h : i < m
  · simp [h]
  · rw [show m + (i - m) = i from by omega]
    have h1 : i - m < 64 := by omega
    simp [h, h1, hi]
theorem NumShifts : selkielaw02_NumShifts.Pure := by
  intro a b ha hb
  replace ha := wf_i64 ha
  replace hb := wf_u8 hb
  refine ⟨3, ?_⟩
  have ht : wrap64 (Int.tmod b 64) = b % 64 := by rw [Int.tmod_eq_emod_of_nonneg hb.1]; exact wrap64_in (by omega)
  unfold selkielaw02_NumShifts.f
  rw [NumShifts.alive, ht]; simp only [Option.bind_some, if_true]
  obtain ⟨m, hm⟩ : ∃ m : Nat, b % 64 = (m : Int) := ⟨(b % 64).toNat, by omega⟩
  have hm64 : m < 64 := by omega
  rw [hm]
  have hr : -9223372036854775808 ≤ (m : Int) ∧ (m : Int) ≤ 9223372036854775807 := by omega
  rw [NumShifts.do_shl 1 _ _ hr, NumShifts.do_shr 1 _ _ hr]; simp only [Option.bind_some]
  rw [NumShifts.do_shr 1 _ _ hr]; simp only [Option.bind_some]
  rw [NumShifts.do_shl 1 _ _ hr]; simp only [Option.bind_some, B_toInt]
  have hu : IntKind.u64.wrap (m : Int) = m := by rw [u64_wrap]; omega
  rw [hu, if_pos (by omega)]
  rw [show (18446744073709551615 : Int) = ((18446744073709551615#64).toNat : Int) from rfl, NumShifts.shr_B _ _ (by omega), NumShifts.shl_B _ _ (by omega)]
  rw [bits_u64, bits_u64, B_u64, B_toNat, B_toNat, u64_B, u64_B, B_toInt, B_toInt]
  have e1 : NumShifts.sh (NumShifts.sh (B a) m) (-m) = (B a <<< m) >>> m := by
    unfold NumShifts.sh
    rw [if_neg (by omega : ¬ (m : Int) < 0)]
    by_cases h0 : m = 0
    · subst h0; simp
    · rw [if_pos (by omega)]; simp
  have e2 : NumShifts.sh (NumShifts.sh (B a) (-m)) m = (B a >>> m) <<< m := by
    unfold NumShifts.sh
    rw [if_neg (by omega : ¬ (m : Int) < 0)]
    by_cases h0 : m = 0
    · subst h0; simp
    · rw [if_pos (by omega)]; simp
  rw [e1, e2, NumShifts.left_right _ _ hm64, NumShifts.right_left _ _ hm64]
  simp
end Go.Proofs.Ytgjiknglgchgkaa.Pure
