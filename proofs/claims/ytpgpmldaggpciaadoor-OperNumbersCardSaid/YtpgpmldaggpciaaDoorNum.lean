/- What num.Do and num.One answer, as plain functions. -/
import Derived.Test.YtpgpmldaggpciaaDoorPAllx2
import Derived.Test.YtpgpmldaggpciaaDoorMaths
import Derived.WalkKit
import Derived.Lib.Hide
namespace Go.Proofs.YtpgpmldaggpciaaDoor.Num
open Go.RowKit Go.Proofs.YtpgpmldaggpciaaDoor.PAll Go.Proofs.YtpgpmldaggpciaaDoorW.PrintWords Go.Proofs.YtpgpmldaggpciaaDoorW.PrintLast Go.Proofs.YtpgpmldaggpciaaDoorW.PrintMore Go.Proofs.YtpgpmldaggpciaaDoor.Maths
set_option linter.unusedVariables false
set_option linter.unusedSimpArgs false
theorem N.shl_B (X : BitVec 64) (n : Int) (h0 : 0 ≤ n) : shl .u64 (X.toNat : Int) n = ((X <<< n.toNat).toNat : Int) := by
  unfold shl; rw [u64_wrap]
  rw [BitVec.toNat_shiftLeft, Nat.shiftLeft_eq]
  show _ % _ = ((_ % 2 ^ 64 : Nat) : Int)
  by_cases h : n.toNat ≤ 64
  · have e : min n.toNat IntKind.u64.bits = n.toNat := Nat.min_eq_left h
    rw [e]; simp
  · have e : min n.toNat IntKind.u64.bits = 64 := Nat.min_eq_right (by show 64 ≤ _; omega)
    rw [e]
    have d : 2 ^ 64 ∣ 2 ^ n.toNat := Nat.pow_dvd_pow 2 (by omega)
    have : X.toNat * 2 ^ n.toNat % 2 ^ 64 = 0 := Nat.mod_eq_zero_of_dvd (Nat.dvd_trans d (Nat.dvd_mul_left ..))
    rw [this]; omega
theorem N.shr_B (X : BitVec 64) (n : Int) (h0 : 0 ≤ n) : shr .u64 (X.toNat : Int) n = ((X >>> n.toNat).toNat : Int) := by
  unfold shr
  rw [BitVec.toNat_ushiftRight, Nat.shiftRight_eq_div_pow]
  by_cases h : n.toNat ≤ 64
  · have e : min n.toNat IntKind.u64.bits = n.toNat := Nat.min_eq_left h
    rw [e]; simp
  · have e : min n.toNat IntKind.u64.bits = 64 := Nat.min_eq_right (by show 64 ≤ _; omega)
    rw [e]
    have hx := X.isLt
    have p : 2 ^ 64 ≤ 2 ^ n.toNat := Nat.pow_le_pow_right (by decide) (by omega)
    rw [Nat.div_eq_of_lt (by omega)]
    omega
def N.sh (X : BitVec 64) (n : Int) : BitVec 64 := if n < 0 then X >>> (-n).toNat else X <<< n.toNat
theorem N.sh_far (X : BitVec 64) (n : Int) (h : n ≥ 64 ∨ n ≤ -64) : N.sh X n = 0#64 := by
  unfold N.sh
  by_cases h0 : n < 0
  · rw [if_pos h0]; exact BitVec.ushiftRight_eq_zero (by omega)
  · rw [if_neg h0]; exact BitVec.shiftLeft_eq_zero (by omega)
theorem N.shift_is (k : Nat) (X : BitVec 64) (n : Int) (hn : -9223372036854775808 ≤ n ∧ n ≤ 9223372036854775807) :
    num_shift.f (k + 1) (X.toNat : Int) n = some ((N.sh X n).toNat : Int) := by
  unfold num_shift.f
  by_cases h1 : n ≥ 64
  · rw [if_pos h1, N.sh_far X n (Or.inl h1)]; rfl
  · rw [if_neg h1]
    by_cases h2 : n ≤ -64
    · rw [N.sh_far X n (Or.inr h2)]; simp [num_shift.j0, h2]
    · simp only [num_shift.j0]
      rw [if_neg (by simp; omega)]
      unfold N.sh
      have hw : wrap64 (-n) = -n := wrap64_in (by omega)
      rw [hw]
      by_cases h0 : n < 0
      · rw [if_pos h0, if_pos h0, if_pos (by omega), N.shr_B X _ (by omega)]
      · rw [if_neg h0, if_neg h0, if_pos (by omega), N.shl_B X _ (by omega)]
theorem N.do_shl (k : Nat) (a b : Int) (hb : -9223372036854775808 ≤ b ∧ b ≤ 9223372036854775807) :
    num_Do.f (k + 2) 9 a b = some ((N.sh (B a) b).toInt, 0) := by
  simp [num_Do.f, num_Do.j0, u64_B, N.shift_is k _ b hb, wrap64_B, B_toNat]
theorem N.do_shr (k : Nat) (a b : Int) (hb : -9223372036854775808 ≤ b ∧ b ≤ 9223372036854775807) :
    num_Do.f (k + 2) 10 a b = some ((N.sh (B a) (-b)).toInt, 0) := by
  by_cases h : b = -9223372036854775808
  · rw [N.sh_far _ _ (by omega)]; simp [num_Do.f, num_Do.j0, h]
  · have hw : wrap64 (-b) = -b := wrap64_in (by omega)
    simp [num_Do.f, num_Do.j0, h, u64_B, hw, N.shift_is k _ (-b) (by omega)]
    rw [wrap64_B, B_toNat]

/-- What Do answers as a number, by operator. -/
def doN (op a b : Int) : Int :=
  if op = 1 then wrap64 (a + b) else if op = 2 then wrap64 (a - b) else if op = 3 then wrap64 (a * b)
  else if op = 4 then (match num_divide.f a b with | some (q, _) => q | none => 0)
  else if op = 5 then (match num_divide.f a b with | some (_, m) => m | none => 0)
  else if op = 6 then (B a &&& B b).toInt else if op = 7 then (B a ||| B b).toInt else if op = 8 then (B a ^^^ B b).toInt
  else if op = 9 then (N.sh (B a) b).toInt else if op = 10 then (N.sh (B a) (-b)).toInt else 0
def doE (op _a b : Int) : Int := if op = 4 ∨ op = 5 then (if b = 0 then 2 else 0) else if 1 ≤ op ∧ op ≤ 10 then 0 else 1
theorem divide_some (a b : Int) (h : b ≠ 0) : ∃ q m, num_divide.f a b = some (q, m) := by
  unfold num_divide.f; rw [if_neg h]; repeat' split
  all_goals exact ⟨_, _, rfl⟩
theorem do_is (k : Nat) (op a b : Int) (hb : -9223372036854775808 ≤ b ∧ b ≤ 9223372036854775807) : num_Do.f (k + 2) op a b = some (doN op a b, doE op a b) := by
  unfold doN doE
  by_cases h1 : op = 1
  · subst h1; simp [num_Do.f]
  by_cases h2 : op = 2
  · subst h2; simp [num_Do.f]
  by_cases h3 : op = 3
  · subst h3; simp [num_Do.f]
  by_cases h4 : op = 4
  · subst h4
    by_cases hz : b = 0
    · subst hz; simp [num_Do.f, num_Do.j0, num_divide.f]
    · obtain ⟨q, m, e⟩ := divide_some a b hz
      simp [num_Do.f, num_Do.j0, hz, e]
  by_cases h5 : op = 5
  · subst h5
    by_cases hz : b = 0
    · subst hz; simp [num_Do.f, num_Do.j0, num_divide.f]
    · obtain ⟨q, m, e⟩ := divide_some a b hz
      simp [num_Do.f, num_Do.j0, hz, e]
  by_cases h6 : op = 6
  · subst h6; simp [num_Do.f, num_Do.j0, bits_i64]
  by_cases h7 : op = 7
  · subst h7; simp [num_Do.f, num_Do.j0, bits_i64]
  by_cases h8 : op = 8
  · subst h8; simp [num_Do.f, num_Do.j0, bits_i64]
  by_cases h9 : op = 9
  · subst h9; simp [N.do_shl k a b hb]
  by_cases h10 : op = 10
  · subst h10; simp [N.do_shr k a b hb]
  simp [num_Do.f, num_Do.j0, h1, h2, h3, h4, h5, h6, h7, h8, h9, h10]
  omega
def oneN (op a : Int) : Int := if op = 20 then wrap64 (-a) else if op = 21 then (~~~ B a).toInt else 0
theorem one_is (op a : Int) : ∃ e, num_One.f op a = some (oneN op a, e) := by
  unfold num_One.f oneN
  by_cases h : op = 20
  · subst h; exact ⟨0, by simp⟩
  by_cases h1 : op = 21
  · subst h1
    refine ⟨0, ?_⟩
    have e : Go.bits .xor .i64 (-1) a = (~~~ B a).toInt := by
      rw [bits_i64]; show (B (-1) ^^^ B a).toInt = _
      rw [show B (-1) = BitVec.allOnes 64 from by decide]; rw [BitVec.allOnes_xor]
    simp [e]
  · exact ⟨1, by simp [h, h1]⟩
end Go.Proofs.YtpgpmldaggpciaaDoor.Num
