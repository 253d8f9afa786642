/- The walk of the law NumBits, for any numbers. -/
import Derived.Test.YtgjiknglgchgkaaNum
import Derived.Deep.QuietTactic
import Derived.BigQuiet
set_option linter.unusedVariables false
set_option linter.unusedSimpArgs false
namespace Go.Proofs.Ytgjiknglgchgkaa.NumBitsLaw
open Go.RowKit Go.Proofs.Ytgjiknglgchgkaa.Num Go.Proofs.Ytgjiknglgchgkaa.PNumDoes Go.Proofs.YtgjiknglgchgkaaW.PrintWords Go.Proofs.YtgjiknglgchgkaaW.PrintLast Go.Proofs.YtgjiknglgchgkaaW.PrintMore Go.Proofs.Ytgjiknglgchgkaa.Maths
theorem bf {x y : Int} (h : x = y) : (x != y) = false := by simp [h]
theorem bt' {x y : Int} (h : x = y) : (x == y) = true := by simp [h]
theorem do1 (a b : Int) : doN 1 a b = wrap64 (a + b) := rfl
theorem do2 (a b : Int) : doN 2 a b = wrap64 (a - b) := rfl
theorem do6 (a b : Int) : doN 6 a b = (B a &&& B b).toInt := rfl
theorem do7 (a b : Int) : doN 7 a b = (B a ||| B b).toInt := rfl
theorem do8 (a b : Int) : doN 8 a b = (B a ^^^ B b).toInt := rfl
theorem do9 (a b : Int) : doN 9 a b = (N.sh (B a) b).toInt := rfl
theorem do10 (a b : Int) : doN 10 a b = (N.sh (B a) (-b)).toInt := rfl
theorem shl_shr (a n : Int) : doN 9 a n = doN 10 a (-n) := by simp [doN]
theorem shl_far (a n : Int) (h : n ≥ 64 ∨ n ≤ -64) : doN 9 a n = 0 := by simp [doN, N.sh_far _ _ h]
theorem shr_far (a n : Int) (h : n ≥ 64 ∨ n ≤ -64) : doN 10 a n = 0 := by
  have : -n ≥ 64 ∨ -n ≤ -64 := by omega
  simp [doN, N.sh_far _ _ this]
theorem shl_0 (a : Int) (ha : -9223372036854775808 ≤ a ∧ a ≤ 9223372036854775807) : doN 9 a 0 = a := by simp [doN, N.sh, toInt_B ha]
theorem shl_1 (a n : Int) (h : 0 ≤ n) : doN 9 (doN 9 a n) 1 = doN 9 a (n + 1) := by
  have e : N.sh (N.sh (B a) n) 1 = N.sh (B a) (n + 1) := by
    unfold N.sh; rw [if_neg (by omega), if_neg (by omega), if_neg (by omega)]
    rw [← BitVec.shiftLeft_add]; congr 1; omega
  simp [doN, B_toInt, e]
theorem xor_self (a : Int) : doN 8 a a = 0 := by simp [doN]
theorem xor_xor (a b : Int) (ha : -9223372036854775808 ≤ a ∧ a ≤ 9223372036854775807) : doN 8 (doN 8 a b) b = a := by
  rw [do8, do8, B_toInt, BitVec.xor_assoc]; simp [toInt_B ha]
theorem and_or (a b : Int) : doN 1 (doN 6 a b) (doN 7 a b) = doN 1 a b := by
  rw [do1, do1, do6, do7, wrap64_B, B_add, B_toInt, B_toInt, and_add_or, ← B_add, ← wrap64_B]
theorem or_and (a b : Int) : doN 2 (doN 7 a b) (doN 6 a b) = doN 8 a b := by
  rw [do2, do6, do7, do8, wrap64_B, B_sub, B_toInt, B_toInt, or_sub_and]
theorem rng {x : BitVec 64} : -9223372036854775808 ≤ x.toInt ∧ x.toInt ≤ 9223372036854775807 := by
  have h1 := BitVec.le_toInt x; have h2 := BitVec.toInt_lt (x := x); simp at h1 h2; omega
theorem rng6 (a b : Int) : -9223372036854775808 ≤ doN 6 a b ∧ doN 6 a b ≤ 9223372036854775807 := by simp only [doN]; exact rng
theorem rng7 (a b : Int) : -9223372036854775808 ≤ doN 7 a b ∧ doN 7 a b ≤ 9223372036854775807 := by simp only [doN]; exact rng
set_option maxHeartbeats 4000000 in
theorem walk_mid (a b n : Int) (w : World) (ha : -9223372036854775808 ≤ a ∧ a ≤ 9223372036854775807) (hb : -9223372036854775808 ≤ b ∧ b ≤ 9223372036854775807) (hn : -9223372036854775808 ≤ n ∧ n ≤ 9223372036854775807) (h0 : 0 ≤ n) (h1 : n < 63) :
    Calls Try.prog 4 #[.int .i64 a, .int .i64 b, .int .i64 n] w fun e w' => e = .returned (.bool true) ∧ Drawn0 w w' := by
  have g0 : (n != -9223372036854775808) = true := by rw [bne_iff_ne]; omega
  have g1 : (decide (64 ≤ n)) = false := by simp; omega
  have g2 : (decide (n ≤ -64)) = false := by simp; omega
  have g3 : (decide (0 ≤ n)) = true := by simp; omega
  have g4 : (decide (n < 63)) = true := by simp; omega
  have r6 := rng6 a b
  have r7 := rng7 a b
  have e1 := bf (shl_shr a n)
  have e3 := bf (shl_1 a n h0)
  have e2 := bf (shl_0 a ha)
  have e4 := bt' (xor_self a)
  have e5 := bt' (and_or a b)
  have e6 := bt' (xor_xor a b ha)
  have e7 := bt' (or_and a b)
  go_enter Try.func4, Try.ntmps4
  go_wp2_with (first
    | (go_at_call 9; (with_reducible refine (alive_calls _).mono ?_); rintro e w' ⟨rfl, ⟨nd, rfl⟩⟩)
    | (go_at_call 11; (with_reducible refine (lit11_calls _ _ _ (by omega) _).mono ?_); rintro e w' ⟨rfl, ⟨nd, rfl⟩⟩))
  go_ret
  exact ⟨rfl, by repeat (first | exact Drawn0.refl _ | apply Drawn0.step)⟩
set_option maxHeartbeats 4000000 in
theorem walk_min (a b n : Int) (w : World) (ha : -9223372036854775808 ≤ a ∧ a ≤ 9223372036854775807) (hb : -9223372036854775808 ≤ b ∧ b ≤ 9223372036854775807) (hn : -9223372036854775808 ≤ n ∧ n ≤ 9223372036854775807)  :
    Calls Try.prog 4 #[.int .i64 a, .int .i64 b, .int .i64 (-9223372036854775808)] w fun e w' => e = .returned (.bool true) ∧ Drawn0 w w' := by
  have r6 := rng6 a b
  have r7 := rng7 a b
  have e8 := bf (shl_far a (-9223372036854775808) (by omega))
  have e9 := bf (shr_far a (-9223372036854775808) (by omega))
  have e2 := bf (shl_0 a ha)
  have e4 := bt' (xor_self a)
  have e5 := bt' (and_or a b)
  have e6 := bt' (xor_xor a b ha)
  have e7 := bt' (or_and a b)
  go_enter Try.func4, Try.ntmps4
  go_wp2_with (first
    | (go_at_call 9; (with_reducible refine (alive_calls _).mono ?_); rintro e w' ⟨rfl, ⟨nd, rfl⟩⟩)
    | (go_at_call 11; (with_reducible refine (lit11_calls _ _ _ (by omega) _).mono ?_); rintro e w' ⟨rfl, ⟨nd, rfl⟩⟩))
  go_ret
  exact ⟨rfl, by repeat (first | exact Drawn0.refl _ | apply Drawn0.step)⟩
set_option maxHeartbeats 4000000 in
theorem walk_far (a b n : Int) (w : World) (ha : -9223372036854775808 ≤ a ∧ a ≤ 9223372036854775807) (hb : -9223372036854775808 ≤ b ∧ b ≤ 9223372036854775807) (hn : -9223372036854775808 ≤ n ∧ n ≤ 9223372036854775807) (h0 : 64 ≤ n) :
    Calls Try.prog 4 #[.int .i64 a, .int .i64 b, .int .i64 n] w fun e w' => e = .returned (.bool true) ∧ Drawn0 w w' := by
  have g0 : (n != -9223372036854775808) = true := by rw [bne_iff_ne]; omega
  have g1 : (decide (64 ≤ n)) = true := by simp; omega
  have g2 : (decide (n ≤ -64)) = false := by simp; omega
  have g3 : (decide (0 ≤ n)) = true := by simp; omega
  have g4 : (decide (n < 63)) = false := by simp; omega
  have r6 := rng6 a b
  have r7 := rng7 a b
  have e1 := bf (shl_shr a n)
  have e8 := bf (shl_far a n (by omega))
  have e9 := bf (shr_far a n (by omega))
  have e2 := bf (shl_0 a ha)
  have e4 := bt' (xor_self a)
  have e5 := bt' (and_or a b)
  have e6 := bt' (xor_xor a b ha)
  have e7 := bt' (or_and a b)
  go_enter Try.func4, Try.ntmps4
  go_wp2_with (first
    | (go_at_call 9; (with_reducible refine (alive_calls _).mono ?_); rintro e w' ⟨rfl, ⟨nd, rfl⟩⟩)
    | (go_at_call 11; (with_reducible refine (lit11_calls _ _ _ (by omega) _).mono ?_); rintro e w' ⟨rfl, ⟨nd, rfl⟩⟩))
  go_ret
  exact ⟨rfl, by repeat (first | exact Drawn0.refl _ | apply Drawn0.step)⟩
set_option maxHeartbeats 4000000 in
theorem walk_low (a b n : Int) (w : World) (ha : -9223372036854775808 ≤ a ∧ a ≤ 9223372036854775807) (hb : -9223372036854775808 ≤ b ∧ b ≤ 9223372036854775807) (hn : -9223372036854775808 ≤ n ∧ n ≤ 9223372036854775807) (h0 : n ≤ -64) (h1 : n ≠ -9223372036854775808) :
    Calls Try.prog 4 #[.int .i64 a, .int .i64 b, .int .i64 n] w fun e w' => e = .returned (.bool true) ∧ Drawn0 w w' := by
  have g0 : (n != -9223372036854775808) = true := by rw [bne_iff_ne]; omega
  have g1 : (decide (64 ≤ n)) = false := by simp; omega
  have g2 : (decide (n ≤ -64)) = true := by simp; omega
  have g3 : (decide (0 ≤ n)) = false := by simp; omega
  have g4 : (decide (n < 63)) = true := by simp; omega
  have r6 := rng6 a b
  have r7 := rng7 a b
  have e1 := bf (shl_shr a n)
  have e8 := bf (shl_far a n (by omega))
  have e9 := bf (shr_far a n (by omega))
  have e2 := bf (shl_0 a ha)
  have e4 := bt' (xor_self a)
  have e5 := bt' (and_or a b)
  have e6 := bt' (xor_xor a b ha)
  have e7 := bt' (or_and a b)
  go_enter Try.func4, Try.ntmps4
  go_wp2_with (first
    | (go_at_call 9; (with_reducible refine (alive_calls _).mono ?_); rintro e w' ⟨rfl, ⟨nd, rfl⟩⟩)
    | (go_at_call 11; (with_reducible refine (lit11_calls _ _ _ (by omega) _).mono ?_); rintro e w' ⟨rfl, ⟨nd, rfl⟩⟩))
  go_ret
  exact ⟨rfl, by repeat (first | exact Drawn0.refl _ | apply Drawn0.step)⟩
set_option maxHeartbeats 4000000 in
theorem walk_neg (a b n : Int) (w : World) (ha : -9223372036854775808 ≤ a ∧ a ≤ 9223372036854775807) (hb : -9223372036854775808 ≤ b ∧ b ≤ 9223372036854775807) (hn : -9223372036854775808 ≤ n ∧ n ≤ 9223372036854775807) (h0 : -64 < n) (h1 : n < 0) :
    Calls Try.prog 4 #[.int .i64 a, .int .i64 b, .int .i64 n] w fun e w' => e = .returned (.bool true) ∧ Drawn0 w w' := by
  have g0 : (n != -9223372036854775808) = true := by rw [bne_iff_ne]; omega
  have g1 : (decide (64 ≤ n)) = false := by simp; omega
  have g2 : (decide (n ≤ -64)) = false := by simp; omega
  have g3 : (decide (0 ≤ n)) = false := by simp; omega
  have g4 : (decide (n < 63)) = true := by simp; omega
  have r6 := rng6 a b
  have r7 := rng7 a b
  have e1 := bf (shl_shr a n)
  have e2 := bf (shl_0 a ha)
  have e4 := bt' (xor_self a)
  have e5 := bt' (and_or a b)
  have e6 := bt' (xor_xor a b ha)
  have e7 := bt' (or_and a b)
  go_enter Try.func4, Try.ntmps4
  go_wp2_with (first
    | (go_at_call 9; (with_reducible refine (alive_calls _).mono ?_); rintro e w' ⟨rfl, ⟨nd, rfl⟩⟩)
    | (go_at_call 11; (with_reducible refine (lit11_calls _ _ _ (by omega) _).mono ?_); rintro e w' ⟨rfl, ⟨nd, rfl⟩⟩))
  go_ret
  exact ⟨rfl, by repeat (first | exact Drawn0.refl _ | apply Drawn0.step)⟩
set_option maxHeartbeats 4000000 in
theorem walk_top (a b n : Int) (w : World) (ha : -9223372036854775808 ≤ a ∧ a ≤ 9223372036854775807) (hb : -9223372036854775808 ≤ b ∧ b ≤ 9223372036854775807) (hn : -9223372036854775808 ≤ n ∧ n ≤ 9223372036854775807) (h0 : 63 ≤ n) (h1 : n < 64) :
    Calls Try.prog 4 #[.int .i64 a, .int .i64 b, .int .i64 n] w fun e w' => e = .returned (.bool true) ∧ Drawn0 w w' := by
  have g0 : (n != -9223372036854775808) = true := by rw [bne_iff_ne]; omega
  have g1 : (decide (64 ≤ n)) = false := by simp; omega
  have g2 : (decide (n ≤ -64)) = false := by simp; omega
  have g3 : (decide (0 ≤ n)) = true := by simp; omega
  have g4 : (decide (n < 63)) = false := by simp; omega
  have r6 := rng6 a b
  have r7 := rng7 a b
  have e1 := bf (shl_shr a n)
  have e2 := bf (shl_0 a ha)
  have e4 := bt' (xor_self a)
  have e5 := bt' (and_or a b)
  have e6 := bt' (xor_xor a b ha)
  have e7 := bt' (or_and a b)
  go_enter Try.func4, Try.ntmps4
  go_wp2_with (first
    | (go_at_call 9; (with_reducible refine (alive_calls _).mono ?_); rintro e w' ⟨rfl, ⟨nd, rfl⟩⟩)
    | (go_at_call 11; (with_reducible refine (lit11_calls _ _ _ (by omega) _).mono ?_); rintro e w' ⟨rfl, ⟨nd, rfl⟩⟩))
  go_ret
  exact ⟨rfl, by repeat (first | exact Drawn0.refl _ | apply Drawn0.step)⟩
theorem walk (a b n : Int) (w : World) (ha : -9223372036854775808 ≤ a ∧ a ≤ 9223372036854775807) (hb : -9223372036854775808 ≤ b ∧ b ≤ 9223372036854775807) (hn : -9223372036854775808 ≤ n ∧ n ≤ 9223372036854775807) :
    Calls Try.prog 4 #[.int .i64 a, .int .i64 b, .int .i64 n] w fun e w' => e = .returned (.bool true) ∧ Drawn0 w w' := by
  by_cases c0 : n = -9223372036854775808
  · subst c0; exact walk_min a b _ w ha hb hn
  by_cases c1 : 64 ≤ n
  · exact walk_far a b n w ha hb hn c1
  by_cases c2 : n ≤ -64
  · exact walk_low a b n w ha hb hn c2 c0
  by_cases c3 : n < 0
  · exact walk_neg a b n w ha hb hn (by omega) c3
  by_cases c4 : n < 63
  · exact walk_mid a b n w ha hb hn (by omega) c4
  · exact walk_top a b n w ha hb hn (by omega) (by omega)
end Go.Proofs.Ytgjiknglgchgkaa.NumBitsLaw
