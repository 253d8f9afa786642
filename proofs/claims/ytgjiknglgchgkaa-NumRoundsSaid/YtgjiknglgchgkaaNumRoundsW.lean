/- The walk of the law NumRounds, for any numbers. -/
import Derived.Test.YtgjiknglgchgkaaNumBitsW
set_option linter.unusedVariables false
set_option linter.unusedSimpArgs false
namespace Go.Proofs.Ytgjiknglgchgkaa.NumRoundsLaw
open Go.RowKit Go.Proofs.Ytgjiknglgchgkaa.NumBitsLaw Go.Proofs.Ytgjiknglgchgkaa.Num Go.Proofs.Ytgjiknglgchgkaa.PNumDoes Go.Proofs.YtgjiknglgchgkaaW.PrintWords Go.Proofs.YtgjiknglgchgkaaW.PrintLast Go.Proofs.YtgjiknglgchgkaaW.PrintMore Go.Proofs.Ytgjiknglgchgkaa.Maths
theorem do3 (a b : Int) : doN 3 a b = wrap64 (a * b) := rfl
theorem one20 (a : Int) : oneN 20 a = wrap64 (-a) := rfl
theorem one21 (a : Int) : oneN 21 a = (~~~ B a).toInt := rfl
theorem sub_add (a b : Int) (ha : -9223372036854775808 ≤ a ∧ a ≤ 9223372036854775807) : doN 2 (doN 1 a b) b = a := by
  rw [do1, do2]; apply B_inj (wrap64_range _) ha
  rw [B_wrap, B_sub, B_wrap, B_add, BitVec.add_sub_cancel]
theorem add_comm (a b : Int) : doN 1 a b = doN 1 b a := by rw [do1, do1, Int.add_comm]
theorem mul_comm (a b : Int) : doN 3 a b = doN 3 b a := by rw [do3, do3, Int.mul_comm]
theorem mul_add (a b c : Int) : doN 3 c (doN 1 a b) = doN 1 (doN 3 c a) (doN 3 c b) := by
  rw [do3, do1, do1, do3, do3]; apply B_inj (wrap64_range _) (wrap64_range _)
  simp only [B_wrap, B_mul, B_add]; exact BitVec.mul_add
theorem neg_neg (a : Int) (ha : -9223372036854775808 ≤ a ∧ a ≤ 9223372036854775807) : oneN 20 (oneN 20 a) = a := by
  rw [one20, one20]; apply B_inj (wrap64_range _) ha
  rw [B_wrap, B_neg, B_wrap, B_neg, BitVec.neg_neg]
theorem not_not (a : Int) (ha : -9223372036854775808 ≤ a ∧ a ≤ 9223372036854775807) : oneN 21 (oneN 21 a) = a := by
  rw [one21, one21, B_toInt, BitVec.not_not, toInt_B ha]
theorem neg_not (a : Int) : oneN 20 a = doN 1 (oneN 21 a) 1 := by
  rw [one20, one21, do1]; apply B_inj (wrap64_range _) (wrap64_range _)
  rw [B_wrap, B_wrap, B_add, B_toInt, B_neg, BitVec.neg_eq_not_add]; rfl
theorem sub_zero (a : Int) : doN 2 0 a = oneN 20 a := by rw [do2, one20, Int.zero_sub]
theorem rng1 (a b : Int) : -9223372036854775808 ≤ doN 1 a b ∧ doN 1 a b ≤ 9223372036854775807 := by rw [do1]; exact wrap64_range _
theorem rng3 (a b : Int) : -9223372036854775808 ≤ doN 3 a b ∧ doN 3 a b ≤ 9223372036854775807 := by rw [do3]; exact wrap64_range _
set_option maxHeartbeats 4000000 in
theorem walk (a b c : Int) (w : World) (ha : -9223372036854775808 ≤ a ∧ a ≤ 9223372036854775807) (hb : -9223372036854775808 ≤ b ∧ b ≤ 9223372036854775807) :
    Calls Try.prog 8 #[.int .i64 a, .int .i64 b, .int .i64 c] w fun e w' => e = .returned (.bool true) ∧ Drawn0 w w' := by
  have r1 := rng1 a b
  have r2 := rng3 c b
  have e1 := bt' (sub_add a b ha)
  have e2 := bt' (add_comm a b)
  have e3 := bt' (mul_comm a b)
  have e4 := bt' (mul_add a b c)
  have e5 := bt' (neg_neg a ha)
  have e6 := bt' (not_not a ha)
  have e7 := bt' (neg_not a)
  have e8 := bt' (sub_zero a)
  go_enter Try.func8, Try.ntmps8
  go_wp2_with (first
    | (go_at_call 9; (with_reducible refine (alive_calls _).mono ?_); rintro e w' ⟨rfl, ⟨nd, rfl⟩⟩)
    | (go_at_call 17; (with_reducible refine (lit17_calls _ _ _ (by omega) _).mono ?_); rintro e w' ⟨rfl, ⟨nd, rfl⟩⟩)
    | (go_at_call 18; (with_reducible refine (lit18_calls _ _ _).mono ?_); rintro e w' ⟨rfl, ⟨nd, rfl⟩⟩))
  go_ret
  exact ⟨rfl, by repeat (first | exact Drawn0.refl _ | apply Drawn0.step)⟩
end Go.Proofs.Ytgjiknglgchgkaa.NumRoundsLaw
