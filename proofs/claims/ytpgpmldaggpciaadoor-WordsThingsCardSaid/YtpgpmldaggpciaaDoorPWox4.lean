-- printed by a call of the kit's print.py over several functions of this seat (wip/pr.sh)
import Derived.Test.YtpgpmldaggpciaaDoorPWox0
import Derived.Test.YtpgpmldaggpciaaDoorPWox1
import Derived.Test.YtpgpmldaggpciaaDoorPWox2
namespace Go.Proofs.YtpgpmldaggpciaaDoor.PWo
open Go.RowKit Go.Proofs.YtpgpmldaggpciaaDoorW.PrintWords Go.Proofs.YtpgpmldaggpciaaDoorW.PrintLast Go.Proofs.YtpgpmldaggpciaaDoorW.PrintMore
attribute [local go_sem] max2_int min2_int max_two min_two max_three min_three max_four min_four   -- for this text's walks alone
set_option linter.unusedVariables false
set_option linter.unusedSimpArgs false

/-! ### words_Zero: function 35 -/
def words_Zero.f (a0 : Int) : Option (ByteArray) := if a0 = 5 then (if 21 + 2 ≤ 9223372036854775807 then (if 22 + 2 ≤ 9223372036854775807 then (some (((⟨#[97, 116, 116, 101, 109, 112, 116, 32, 116, 111, 32, 112, 101, 114, 102, 111, 114, 109, 32, 39, 110]⟩ : ByteArray) ++ (⟨#[37, 37]⟩ : ByteArray)) ++ (⟨#[48, 39]⟩ : ByteArray))) else (none)) else (none)) else (if 21 + 2 ≤ 9223372036854775807 then (if 22 + 2 ≤ 9223372036854775807 then (some (((⟨#[97, 116, 116, 101, 109, 112, 116, 32, 116, 111, 32, 112, 101, 114, 102, 111, 114, 109, 32, 39, 110]⟩ : ByteArray) ++ (⟨#[47, 47]⟩ : ByteArray)) ++ (⟨#[48, 39]⟩ : ByteArray))) else (none)) else (none))
set_option maxHeartbeats 8000000 in
set_option maxRecDepth 100000 in
theorem words_Zero.calls (a0 : Int) (r : ByteArray) (w : World) (h : words_Zero.f a0 = some r) :
    Calls Tryd.prog 35 #[.int .i64 a0] w fun e w' => e = .returned (.string r) ∧ Drawn0 w w' := by
  have H : (if a0 = 5 then (if 21 + 2 ≤ 9223372036854775807 then (if 22 + 2 ≤ 9223372036854775807 then (some (((⟨#[97, 116, 116, 101, 109, 112, 116, 32, 116, 111, 32, 112, 101, 114, 102, 111, 114, 109, 32, 39, 110]⟩ : ByteArray) ++ (⟨#[37, 37]⟩ : ByteArray)) ++ (⟨#[48, 39]⟩ : ByteArray))) else (none)) else (none)) else (if 21 + 2 ≤ 9223372036854775807 then (if 22 + 2 ≤ 9223372036854775807 then (some (((⟨#[97, 116, 116, 101, 109, 112, 116, 32, 116, 111, 32, 112, 101, 114, 102, 111, 114, 109, 32, 39, 110]⟩ : ByteArray) ++ (⟨#[47, 47]⟩ : ByteArray)) ++ (⟨#[48, 39]⟩ : ByteArray))) else (none)) else (none))) = some r := h
  clear h
  by_cases c2 : a0 = 5
  · rw [if_pos c2] at H
    have c2b0 : (a0 == 5) = true := beq_iff_eq.mpr c2
    have c2b1 : (a0 != 5) = false := bne_eq_false_iff_eq.mpr c2
    clear c2
    by_cases c3 : 21 + 2 ≤ 9223372036854775807
    · rw [if_pos c3] at H
      have c3b0 := eq_true c3
      have c3b1 : decide (21 + 2 ≤ 9223372036854775807) = true := decide_eq_true c3
      try have c3b2 : (9223372036854775807 < 21 + 2) = False := eq_false (Nat.not_lt.2 c3)
      by_cases c4 : 22 + 2 ≤ 9223372036854775807
      · rw [if_pos c4] at H
        have c4b0 := eq_true c4
        have c4b1 : decide (22 + 2 ≤ 9223372036854775807) = true := decide_eq_true c4
        try have c4b2 : (9223372036854775807 < 22 + 2) = False := eq_false (Nat.not_lt.2 c4)
        obtain rfl := Option.some.inj H
        go_enter Tryd.func35, Tryd.ntmps35
        go_wp2
        go_ret
        exact ⟨by first | rfl | (simp; done) | (simp [*]; done) | (simp; exact TabW.bclose _ _) | (simp; exact TabW.bclose2 _), by repeat (first | exact Drawn0.refl _ | apply Drawn0.step)⟩
      · rw [if_neg c4] at H
        exact absurd H (by simp)
    · rw [if_neg c3] at H
      exact absurd H (by simp)
  · rw [if_neg c2] at H
    have c2b0 : (a0 == 5) = false := beq_eq_false_iff_ne.mpr c2
    have c2b1 : (a0 != 5) = true := bne_iff_ne.mpr c2
    by_cases c5 : 21 + 2 ≤ 9223372036854775807
    · rw [if_pos c5] at H
      have c5b0 := eq_true c5
      have c5b1 : decide (21 + 2 ≤ 9223372036854775807) = true := decide_eq_true c5
      try have c5b2 : (9223372036854775807 < 21 + 2) = False := eq_false (Nat.not_lt.2 c5)
      by_cases c6 : 22 + 2 ≤ 9223372036854775807
      · rw [if_pos c6] at H
        have c6b0 := eq_true c6
        have c6b1 : decide (22 + 2 ≤ 9223372036854775807) = true := decide_eq_true c6
        try have c6b2 : (9223372036854775807 < 22 + 2) = False := eq_false (Nat.not_lt.2 c6)
        obtain rfl := Option.some.inj H
        go_enter Tryd.func35, Tryd.ntmps35
        go_wp2
        go_ret
        exact ⟨by first | rfl | (simp; done) | (simp [*]; done) | (simp; exact TabW.bclose _ _) | (simp; exact TabW.bclose2 _), by repeat (first | exact Drawn0.refl _ | apply Drawn0.step)⟩
      · rw [if_neg c6] at H
        exact absurd H (by simp)
    · rw [if_neg c5] at H
      exact absurd H (by simp)

/-! ### selkieref10_Zero: function 36 -/
def selkieref10_Zero.f (a0 : Int) : Option (ByteArray) := if a0 = 5 then (some (⟨#[97, 116, 116, 101, 109, 112, 116, 32, 116, 111, 32, 112, 101, 114, 102, 111, 114, 109, 32, 39, 110, 37, 37, 48, 39]⟩ : ByteArray)) else (some (⟨#[97, 116, 116, 101, 109, 112, 116, 32, 116, 111, 32, 112, 101, 114, 102, 111, 114, 109, 32, 39, 110, 47, 47, 48, 39]⟩ : ByteArray))
set_option maxHeartbeats 8000000 in
set_option maxRecDepth 100000 in
theorem selkieref10_Zero.calls (a0 : Int) (r : ByteArray) (w : World) (h : selkieref10_Zero.f a0 = some r) :
    Calls Tryd.prog 36 #[.int .i64 a0] w fun e w' => e = .returned (.string r) ∧ Drawn0 w w' := by
  have H : (if a0 = 5 then (some (⟨#[97, 116, 116, 101, 109, 112, 116, 32, 116, 111, 32, 112, 101, 114, 102, 111, 114, 109, 32, 39, 110, 37, 37, 48, 39]⟩ : ByteArray)) else (some (⟨#[97, 116, 116, 101, 109, 112, 116, 32, 116, 111, 32, 112, 101, 114, 102, 111, 114, 109, 32, 39, 110, 47, 47, 48, 39]⟩ : ByteArray))) = some r := h
  clear h
  by_cases c2 : a0 = 5
  · rw [if_pos c2] at H
    have c2b0 : (a0 == 5) = true := beq_iff_eq.mpr c2
    have c2b1 : (a0 != 5) = false := bne_eq_false_iff_eq.mpr c2
    clear c2
    obtain rfl := Option.some.inj H
    go_enter Tryd.func36, Tryd.ntmps36
    go_wp2
    go_ret
    exact ⟨by first | rfl | (simp; done) | (simp [*]; done) | (simp; exact TabW.bclose _ _) | (simp; exact TabW.bclose2 _), by repeat (first | exact Drawn0.refl _ | apply Drawn0.step)⟩
  · rw [if_neg c2] at H
    have c2b0 : (a0 == 5) = false := beq_eq_false_iff_ne.mpr c2
    have c2b1 : (a0 != 5) = true := bne_iff_ne.mpr c2
    obtain rfl := Option.some.inj H
    go_enter Tryd.func36, Tryd.ntmps36
    go_wp2
    go_ret
    exact ⟨by first | rfl | (simp; done) | (simp [*]; done) | (simp; exact TabW.bclose _ _) | (simp; exact TabW.bclose2 _), by repeat (first | exact Drawn0.refl _ | apply Drawn0.step)⟩

/-! ### words_For: function 37 -/
def words_For.f (a0 : Int) : Option (ByteArray) := if a0 = 0 then (if 6 + 30 ≤ 9223372036854775807 then (some ((⟨#[39, 102, 111, 114, 39, 32]⟩ : ByteArray) ++ (⟨#[105, 110, 105, 116, 105, 97, 108, 32, 118, 97, 108, 117, 101, 32, 109, 117, 115, 116, 32, 98, 101, 32, 97, 32, 110, 117, 109, 98, 101, 114]⟩ : ByteArray))) else (none)) else (if a0 = 1 then (if 6 + 22 ≤ 9223372036854775807 then (some ((⟨#[39, 102, 111, 114, 39, 32]⟩ : ByteArray) ++ (⟨#[108, 105, 109, 105, 116, 32, 109, 117, 115, 116, 32, 98, 101, 32, 97, 32, 110, 117, 109, 98, 101, 114]⟩ : ByteArray))) else (none)) else (if a0 = 2 then (if 6 + 21 ≤ 9223372036854775807 then (some ((⟨#[39, 102, 111, 114, 39, 32]⟩ : ByteArray) ++ (⟨#[115, 116, 101, 112, 32, 109, 117, 115, 116, 32, 98, 101, 32, 97, 32, 110, 117, 109, 98, 101, 114]⟩ : ByteArray))) else (none)) else (if a0 = 3 then (if 6 + 12 ≤ 9223372036854775807 then (some ((⟨#[39, 102, 111, 114, 39, 32]⟩ : ByteArray) ++ (⟨#[115, 116, 101, 112, 32, 105, 115, 32, 122, 101, 114, 111]⟩ : ByteArray))) else (none)) else (some (⟨#[]⟩ : ByteArray)))))
set_option maxHeartbeats 8000000 in
set_option maxRecDepth 100000 in
theorem words_For.calls (a0 : Int) (r : ByteArray) (w : World) (h : words_For.f a0 = some r) :
    Calls Tryd.prog 37 #[.int .i64 a0] w fun e w' => e = .returned (.string r) ∧ Drawn0 w w' := by
  have H : (if a0 = 0 then (if 6 + 30 ≤ 9223372036854775807 then (some ((⟨#[39, 102, 111, 114, 39, 32]⟩ : ByteArray) ++ (⟨#[105, 110, 105, 116, 105, 97, 108, 32, 118, 97, 108, 117, 101, 32, 109, 117, 115, 116, 32, 98, 101, 32, 97, 32, 110, 117, 109, 98, 101, 114]⟩ : ByteArray))) else (none)) else (if a0 = 1 then (if 6 + 22 ≤ 9223372036854775807 then (some ((⟨#[39, 102, 111, 114, 39, 32]⟩ : ByteArray) ++ (⟨#[108, 105, 109, 105, 116, 32, 109, 117, 115, 116, 32, 98, 101, 32, 97, 32, 110, 117, 109, 98, 101, 114]⟩ : ByteArray))) else (none)) else (if a0 = 2 then (if 6 + 21 ≤ 9223372036854775807 then (some ((⟨#[39, 102, 111, 114, 39, 32]⟩ : ByteArray) ++ (⟨#[115, 116, 101, 112, 32, 109, 117, 115, 116, 32, 98, 101, 32, 97, 32, 110, 117, 109, 98, 101, 114]⟩ : ByteArray))) else (none)) else (if a0 = 3 then (if 6 + 12 ≤ 9223372036854775807 then (some ((⟨#[39, 102, 111, 114, 39, 32]⟩ : ByteArray) ++ (⟨#[115, 116, 101, 112, 32, 105, 115, 32, 122, 101, 114, 111]⟩ : ByteArray))) else (none)) else (some (⟨#[]⟩ : ByteArray)))))) = some r := h
  clear h
  by_cases c2 : a0 = 0
  · rw [if_pos c2] at H
    have c2b0 : (a0 == 0) = true := beq_iff_eq.mpr c2
    have c2b1 : (a0 != 0) = false := bne_eq_false_iff_eq.mpr c2
    clear c2
    by_cases c3 : 6 + 30 ≤ 9223372036854775807
    · rw [if_pos c3] at H
      have c3b0 := eq_true c3
      have c3b1 : decide (6 + 30 ≤ 9223372036854775807) = true := decide_eq_true c3
      try have c3b2 : (9223372036854775807 < 6 + 30) = False := eq_false (Nat.not_lt.2 c3)
      obtain rfl := Option.some.inj H
      go_enter Tryd.func37, Tryd.ntmps37
      go_wp2
      go_ret
      exact ⟨by first | rfl | (simp; done) | (simp [*]; done) | (simp; exact TabW.bclose _ _) | (simp; exact TabW.bclose2 _), by repeat (first | exact Drawn0.refl _ | apply Drawn0.step)⟩
    · rw [if_neg c3] at H
      exact absurd H (by simp)
  · rw [if_neg c2] at H
    have c2b0 : (a0 == 0) = false := beq_eq_false_iff_ne.mpr c2
    have c2b1 : (a0 != 0) = true := bne_iff_ne.mpr c2
    by_cases c4 : a0 = 1
    · rw [if_pos c4] at H
      have c4b0 : (a0 == 1) = true := beq_iff_eq.mpr c4
      have c4b1 : (a0 != 1) = false := bne_eq_false_iff_eq.mpr c4
      clear c4
      by_cases c5 : 6 + 22 ≤ 9223372036854775807
      · rw [if_pos c5] at H
        have c5b0 := eq_true c5
        have c5b1 : decide (6 + 22 ≤ 9223372036854775807) = true := decide_eq_true c5
        try have c5b2 : (9223372036854775807 < 6 + 22) = False := eq_false (Nat.not_lt.2 c5)
        obtain rfl := Option.some.inj H
        go_enter Tryd.func37, Tryd.ntmps37
        go_wp2
        go_ret
        exact ⟨by first | rfl | (simp; done) | (simp [*]; done) | (simp; exact TabW.bclose _ _) | (simp; exact TabW.bclose2 _), by repeat (first | exact Drawn0.refl _ | apply Drawn0.step)⟩
      · rw [if_neg c5] at H
        exact absurd H (by simp)
    · rw [if_neg c4] at H
      have c4b0 : (a0 == 1) = false := beq_eq_false_iff_ne.mpr c4
      have c4b1 : (a0 != 1) = true := bne_iff_ne.mpr c4
      by_cases c6 : a0 = 2
      · rw [if_pos c6] at H
        have c6b0 : (a0 == 2) = true := beq_iff_eq.mpr c6
        have c6b1 : (a0 != 2) = false := bne_eq_false_iff_eq.mpr c6
        clear c6
        by_cases c7 : 6 + 21 ≤ 9223372036854775807
        · rw [if_pos c7] at H
          have c7b0 := eq_true c7
          have c7b1 : decide (6 + 21 ≤ 9223372036854775807) = true := decide_eq_true c7
          try have c7b2 : (9223372036854775807 < 6 + 21) = False := eq_false (Nat.not_lt.2 c7)
          obtain rfl := Option.some.inj H
          go_enter Tryd.func37, Tryd.ntmps37
          go_wp2
          go_ret
          exact ⟨by first | rfl | (simp; done) | (simp [*]; done) | (simp; exact TabW.bclose _ _) | (simp; exact TabW.bclose2 _), by repeat (first | exact Drawn0.refl _ | apply Drawn0.step)⟩
        · rw [if_neg c7] at H
          exact absurd H (by simp)
      · rw [if_neg c6] at H
        have c6b0 : (a0 == 2) = false := beq_eq_false_iff_ne.mpr c6
        have c6b1 : (a0 != 2) = true := bne_iff_ne.mpr c6
        by_cases c8 : a0 = 3
        · rw [if_pos c8] at H
          have c8b0 : (a0 == 3) = true := beq_iff_eq.mpr c8
          have c8b1 : (a0 != 3) = false := bne_eq_false_iff_eq.mpr c8
          clear c8
          by_cases c9 : 6 + 12 ≤ 9223372036854775807
          · rw [if_pos c9] at H
            have c9b0 := eq_true c9
            have c9b1 : decide (6 + 12 ≤ 9223372036854775807) = true := decide_eq_true c9
            try have c9b2 : (9223372036854775807 < 6 + 12) = False := eq_false (Nat.not_lt.2 c9)
            obtain rfl := Option.some.inj H
            go_enter Tryd.func37, Tryd.ntmps37
            go_wp2
            go_ret
            exact ⟨by first | rfl | (simp; done) | (simp [*]; done) | (simp; exact TabW.bclose _ _) | (simp; exact TabW.bclose2 _), by repeat (first | exact Drawn0.refl _ | apply Drawn0.step)⟩
          · rw [if_neg c9] at H
            exact absurd H (by simp)
        · rw [if_neg c8] at H
          have c8b0 : (a0 == 3) = false := beq_eq_false_iff_ne.mpr c8
          have c8b1 : (a0 != 3) = true := bne_iff_ne.mpr c8
          obtain rfl := Option.some.inj H
          go_enter Tryd.func37, Tryd.ntmps37
          go_wp2
          go_ret
          exact ⟨by first | rfl | (simp; done) | (simp [*]; done) | (simp; exact TabW.bclose _ _) | (simp; exact TabW.bclose2 _), by repeat (first | exact Drawn0.refl _ | apply Drawn0.step)⟩

/-! ### selkieref10_For: function 38 -/
def selkieref10_For.f (a0 : Int) : Option (ByteArray) := if a0 = 0 then (some (⟨#[39, 102, 111, 114, 39, 32, 105, 110, 105, 116, 105, 97, 108, 32, 118, 97, 108, 117, 101, 32, 109, 117, 115, 116, 32, 98, 101, 32, 97, 32, 110, 117, 109, 98, 101, 114]⟩ : ByteArray)) else (if a0 = 1 then (some (⟨#[39, 102, 111, 114, 39, 32, 108, 105, 109, 105, 116, 32, 109, 117, 115, 116, 32, 98, 101, 32, 97, 32, 110, 117, 109, 98, 101, 114]⟩ : ByteArray)) else (if a0 = 2 then (some (⟨#[39, 102, 111, 114, 39, 32, 115, 116, 101, 112, 32, 109, 117, 115, 116, 32, 98, 101, 32, 97, 32, 110, 117, 109, 98, 101, 114]⟩ : ByteArray)) else (if a0 = 3 then (some (⟨#[39, 102, 111, 114, 39, 32, 115, 116, 101, 112, 32, 105, 115, 32, 122, 101, 114, 111]⟩ : ByteArray)) else (some (⟨#[]⟩ : ByteArray)))))
set_option maxHeartbeats 8000000 in
set_option maxRecDepth 100000 in
theorem selkieref10_For.calls (a0 : Int) (r : ByteArray) (w : World) (h : selkieref10_For.f a0 = some r) :
    Calls Tryd.prog 38 #[.int .i64 a0] w fun e w' => e = .returned (.string r) ∧ Drawn0 w w' := by
  have H : (if a0 = 0 then (some (⟨#[39, 102, 111, 114, 39, 32, 105, 110, 105, 116, 105, 97, 108, 32, 118, 97, 108, 117, 101, 32, 109, 117, 115, 116, 32, 98, 101, 32, 97, 32, 110, 117, 109, 98, 101, 114]⟩ : ByteArray)) else (if a0 = 1 then (some (⟨#[39, 102, 111, 114, 39, 32, 108, 105, 109, 105, 116, 32, 109, 117, 115, 116, 32, 98, 101, 32, 97, 32, 110, 117, 109, 98, 101, 114]⟩ : ByteArray)) else (if a0 = 2 then (some (⟨#[39, 102, 111, 114, 39, 32, 115, 116, 101, 112, 32, 109, 117, 115, 116, 32, 98, 101, 32, 97, 32, 110, 117, 109, 98, 101, 114]⟩ : ByteArray)) else (if a0 = 3 then (some (⟨#[39, 102, 111, 114, 39, 32, 115, 116, 101, 112, 32, 105, 115, 32, 122, 101, 114, 111]⟩ : ByteArray)) else (some (⟨#[]⟩ : ByteArray)))))) = some r := h
  clear h
  by_cases c2 : a0 = 0
  · rw [if_pos c2] at H
    have c2b0 : (a0 == 0) = true := beq_iff_eq.mpr c2
    have c2b1 : (a0 != 0) = false := bne_eq_false_iff_eq.mpr c2
    clear c2
    obtain rfl := Option.some.inj H
    go_enter Tryd.func38, Tryd.ntmps38
    go_wp2
    go_ret
    exact ⟨by first | rfl | (simp; done) | (simp [*]; done) | (simp; exact TabW.bclose _ _) | (simp; exact TabW.bclose2 _), by repeat (first | exact Drawn0.refl _ | apply Drawn0.step)⟩
  · rw [if_neg c2] at H
    have c2b0 : (a0 == 0) = false := beq_eq_false_iff_ne.mpr c2
    have c2b1 : (a0 != 0) = true := bne_iff_ne.mpr c2
    by_cases c3 : a0 = 1
    · rw [if_pos c3] at H
      have c3b0 : (a0 == 1) = true := beq_iff_eq.mpr c3
      have c3b1 : (a0 != 1) = false := bne_eq_false_iff_eq.mpr c3
      clear c3
      obtain rfl := Option.some.inj H
      go_enter Tryd.func38, Tryd.ntmps38
      go_wp2
      go_ret
      exact ⟨by first | rfl | (simp; done) | (simp [*]; done) | (simp; exact TabW.bclose _ _) | (simp; exact TabW.bclose2 _), by repeat (first | exact Drawn0.refl _ | apply Drawn0.step)⟩
    · rw [if_neg c3] at H
      have c3b0 : (a0 == 1) = false := beq_eq_false_iff_ne.mpr c3
      have c3b1 : (a0 != 1) = true := bne_iff_ne.mpr c3
      by_cases c4 : a0 = 2
      · rw [if_pos c4] at H
        have c4b0 : (a0 == 2) = true := beq_iff_eq.mpr c4
        have c4b1 : (a0 != 2) = false := bne_eq_false_iff_eq.mpr c4
        clear c4
        obtain rfl := Option.some.inj H
        go_enter Tryd.func38, Tryd.ntmps38
        go_wp2
        go_ret
        exact ⟨by first | rfl | (simp; done) | (simp [*]; done) | (simp; exact TabW.bclose _ _) | (simp; exact TabW.bclose2 _), by repeat (first | exact Drawn0.refl _ | apply Drawn0.step)⟩
      · rw [if_neg c4] at H
        have c4b0 : (a0 == 2) = false := beq_eq_false_iff_ne.mpr c4
        have c4b1 : (a0 != 2) = true := bne_iff_ne.mpr c4
        by_cases c5 : a0 = 3
        · rw [if_pos c5] at H
          have c5b0 : (a0 == 3) = true := beq_iff_eq.mpr c5
          have c5b1 : (a0 != 3) = false := bne_eq_false_iff_eq.mpr c5
          clear c5
          obtain rfl := Option.some.inj H
          go_enter Tryd.func38, Tryd.ntmps38
          go_wp2
          go_ret
          exact ⟨by first | rfl | (simp; done) | (simp [*]; done) | (simp; exact TabW.bclose _ _) | (simp; exact TabW.bclose2 _), by repeat (first | exact Drawn0.refl _ | apply Drawn0.step)⟩
        · rw [if_neg c5] at H
          have c5b0 : (a0 == 3) = false := beq_eq_false_iff_ne.mpr c5
          have c5b1 : (a0 != 3) = true := bne_iff_ne.mpr c5
          obtain rfl := Option.some.inj H
          go_enter Tryd.func38, Tryd.ntmps38
          go_wp2
          go_ret
          exact ⟨by first | rfl | (simp; done) | (simp [*]; done) | (simp; exact TabW.bclose _ _) | (simp; exact TabW.bclose2 _), by repeat (first | exact Drawn0.refl _ | apply Drawn0.step)⟩

/-! ### selkieref10_Arg: function 40 -/
def selkieref10_Arg.f (a0 : Int) (a1 : ByteArray) : Option (ByteArray) := (selkieref01_Digits.f a0).bind fun t179 => (if 14 + t179.size ≤ 9223372036854775807 then (if ((⟨#[98, 97, 100, 32, 97, 114, 103, 117, 109, 101, 110, 116, 32, 35]⟩ : ByteArray) ++ t179).size + 5 ≤ 9223372036854775807 then (if (((⟨#[98, 97, 100, 32, 97, 114, 103, 117, 109, 101, 110, 116, 32, 35]⟩ : ByteArray) ++ t179) ++ (⟨#[32, 116, 111, 32, 39]⟩ : ByteArray)).size + a1.size ≤ 9223372036854775807 then (if ((((⟨#[98, 97, 100, 32, 97, 114, 103, 117, 109, 101, 110, 116, 32, 35]⟩ : ByteArray) ++ t179) ++ (⟨#[32, 116, 111, 32, 39]⟩ : ByteArray)) ++ a1).size + 1 ≤ 9223372036854775807 then (some (((((⟨#[98, 97, 100, 32, 97, 114, 103, 117, 109, 101, 110, 116, 32, 35]⟩ : ByteArray) ++ t179) ++ (⟨#[32, 116, 111, 32, 39]⟩ : ByteArray)) ++ a1) ++ (⟨#[39]⟩ : ByteArray))) else (none)) else (none)) else (none)) else (none))
set_option maxHeartbeats 8000000 in
set_option maxRecDepth 100000 in
theorem selkieref10_Arg.calls (a0 : Int) (a1 : ByteArray) (r : ByteArray) (w : World) (hT : Go.Proofs.YtpgpmldaggpciaaDoor.TabW.Tab w) (h : selkieref10_Arg.f a0 a1 = some r) :
    Calls Tryd.prog 40 #[.int .i64 a0, .string a1] w fun e w' => e = .returned (.string r) ∧ Below w.heap.size w w' := by
  have HB := Aside0.mk (Below.refl w.heap.size w)
  have HTT := Aside0.mk hT
  clear hT
  have H : ((selkieref01_Digits.f a0).bind fun t179 => (if 14 + t179.size ≤ 9223372036854775807 then (if ((⟨#[98, 97, 100, 32, 97, 114, 103, 117, 109, 101, 110, 116, 32, 35]⟩ : ByteArray) ++ t179).size + 5 ≤ 9223372036854775807 then (if (((⟨#[98, 97, 100, 32, 97, 114, 103, 117, 109, 101, 110, 116, 32, 35]⟩ : ByteArray) ++ t179) ++ (⟨#[32, 116, 111, 32, 39]⟩ : ByteArray)).size + a1.size ≤ 9223372036854775807 then (if ((((⟨#[98, 97, 100, 32, 97, 114, 103, 117, 109, 101, 110, 116, 32, 35]⟩ : ByteArray) ++ t179) ++ (⟨#[32, 116, 111, 32, 39]⟩ : ByteArray)) ++ a1).size + 1 ≤ 9223372036854775807 then (some (((((⟨#[98, 97, 100, 32, 97, 114, 103, 117, 109, 101, 110, 116, 32, 35]⟩ : ByteArray) ++ t179) ++ (⟨#[32, 116, 111, 32, 39]⟩ : ByteArray)) ++ a1) ++ (⟨#[39]⟩ : ByteArray))) else (none)) else (none)) else (none)) else (none))) = some r := h
  clear h
  replace H := Option.bind_eq_some_iff.mp H
  obtain ⟨t179, A30, H⟩ := H
  replace H : (if 14 + t179.size ≤ 9223372036854775807 then (if ((⟨#[98, 97, 100, 32, 97, 114, 103, 117, 109, 101, 110, 116, 32, 35]⟩ : ByteArray) ++ t179).size + 5 ≤ 9223372036854775807 then (if (((⟨#[98, 97, 100, 32, 97, 114, 103, 117, 109, 101, 110, 116, 32, 35]⟩ : ByteArray) ++ t179) ++ (⟨#[32, 116, 111, 32, 39]⟩ : ByteArray)).size + a1.size ≤ 9223372036854775807 then (if ((((⟨#[98, 97, 100, 32, 97, 114, 103, 117, 109, 101, 110, 116, 32, 35]⟩ : ByteArray) ++ t179) ++ (⟨#[32, 116, 111, 32, 39]⟩ : ByteArray)) ++ a1).size + 1 ≤ 9223372036854775807 then (some (((((⟨#[98, 97, 100, 32, 97, 114, 103, 117, 109, 101, 110, 116, 32, 35]⟩ : ByteArray) ++ t179) ++ (⟨#[32, 116, 111, 32, 39]⟩ : ByteArray)) ++ a1) ++ (⟨#[39]⟩ : ByteArray))) else (none)) else (none)) else (none)) else (none)) = some r := H
  have A3 := Aside0.mk A30
  clear A30
  by_cases c4 : 14 + t179.size ≤ 9223372036854775807
  · rw [if_pos c4] at H
    have c4b0 := eq_true c4
    have c4b1 : decide (14 + t179.size ≤ 9223372036854775807) = true := decide_eq_true c4
    try have c4b2 : (9223372036854775807 < 14 + t179.size) = False := eq_false (Nat.not_lt.2 c4)
    by_cases c5 : ((⟨#[98, 97, 100, 32, 97, 114, 103, 117, 109, 101, 110, 116, 32, 35]⟩ : ByteArray) ++ t179).size + 5 ≤ 9223372036854775807
    · rw [if_pos c5] at H
      have c5b0 := eq_true c5
      have c5b1 : decide (((⟨#[98, 97, 100, 32, 97, 114, 103, 117, 109, 101, 110, 116, 32, 35]⟩ : ByteArray) ++ t179).size + 5 ≤ 9223372036854775807) = true := decide_eq_true c5
      try have c5b2 : (9223372036854775807 < ((⟨#[98, 97, 100, 32, 97, 114, 103, 117, 109, 101, 110, 116, 32, 35]⟩ : ByteArray) ++ t179).size + 5) = False := eq_false (Nat.not_lt.2 c5)
      (try (have c5e := c5b2; simp only [ByteArray.size_append, TabW.sizeL, List.length_cons, List.length_nil, Nat.zero_add, Nat.reduceAdd] at c5e))
      by_cases c6 : (((⟨#[98, 97, 100, 32, 97, 114, 103, 117, 109, 101, 110, 116, 32, 35]⟩ : ByteArray) ++ t179) ++ (⟨#[32, 116, 111, 32, 39]⟩ : ByteArray)).size + a1.size ≤ 9223372036854775807
      · rw [if_pos c6] at H
        have c6b0 := eq_true c6
        have c6b1 : decide ((((⟨#[98, 97, 100, 32, 97, 114, 103, 117, 109, 101, 110, 116, 32, 35]⟩ : ByteArray) ++ t179) ++ (⟨#[32, 116, 111, 32, 39]⟩ : ByteArray)).size + a1.size ≤ 9223372036854775807) = true := decide_eq_true c6
        try have c6b2 : (9223372036854775807 < (((⟨#[98, 97, 100, 32, 97, 114, 103, 117, 109, 101, 110, 116, 32, 35]⟩ : ByteArray) ++ t179) ++ (⟨#[32, 116, 111, 32, 39]⟩ : ByteArray)).size + a1.size) = False := eq_false (Nat.not_lt.2 c6)
        (try (have c6e := c6b2; simp only [ByteArray.size_append, TabW.sizeL, List.length_cons, List.length_nil, Nat.zero_add, Nat.reduceAdd] at c6e))
        by_cases c7 : ((((⟨#[98, 97, 100, 32, 97, 114, 103, 117, 109, 101, 110, 116, 32, 35]⟩ : ByteArray) ++ t179) ++ (⟨#[32, 116, 111, 32, 39]⟩ : ByteArray)) ++ a1).size + 1 ≤ 9223372036854775807
        · rw [if_pos c7] at H
          have c7b0 := eq_true c7
          have c7b1 : decide (((((⟨#[98, 97, 100, 32, 97, 114, 103, 117, 109, 101, 110, 116, 32, 35]⟩ : ByteArray) ++ t179) ++ (⟨#[32, 116, 111, 32, 39]⟩ : ByteArray)) ++ a1).size + 1 ≤ 9223372036854775807) = true := decide_eq_true c7
          try have c7b2 : (9223372036854775807 < ((((⟨#[98, 97, 100, 32, 97, 114, 103, 117, 109, 101, 110, 116, 32, 35]⟩ : ByteArray) ++ t179) ++ (⟨#[32, 116, 111, 32, 39]⟩ : ByteArray)) ++ a1).size + 1) = False := eq_false (Nat.not_lt.2 c7)
          (try (have c7e := c7b2; simp only [ByteArray.size_append, TabW.sizeL, List.length_cons, List.length_nil, Nat.zero_add, Nat.reduceAdd] at c7e))
          obtain rfl := Option.some.inj H
          go_enter Tryd.func40, Tryd.ntmps40
          go_wp2_with (first | ((with_reducible refine gate_callee (f := 67) rfl ?_); refine goesL_ (some 6) rfl rfl Tryd.func67 (by kernel_rfl) rfl #[.int .i64 a0] rfl (by (try simp only [List.map_toArray, List.map_cons, List.map_nil]); first | done | rfl | (simp only [List.length_drop, List.length_take]; rfl)) ?_; (with_reducible refine (selkieref01_Digits.calls a0 t179 _ (HTT.out.on (by repeat (first | (with_reducible first | exact HB.out | apply below_alloc | apply pw_below_drewN | apply below_drew1) | exact HB.out))) A3.out).mono ?_); rintro e w8 ⟨rfl, hb⟩; refine ⟨_, rfl, ?_⟩; have n0_ := Aside0.mk (below_step (by repeat (first | (with_reducible first | exact HB.out | apply below_alloc | apply pw_below_drewN | apply below_drew1) | exact HB.out)) hb); clear HB; have HB := n0_; clear n0_; (try clear hb); (try clear hb2); (try clear hk); (try clear hi)))
          go_ret
          exact ⟨by first | rfl | (simp [errW_none, errW_some] <;> rfl) | (simp [*, errW_none, errW_some] <;> rfl), by repeat (first | (with_reducible first | exact HB.out | apply below_alloc | apply pw_below_drewN | apply below_drew1) | exact HB.out)⟩
        · rw [if_neg c7] at H
          exact absurd H (by simp)
      · rw [if_neg c6] at H
        exact absurd H (by simp)
    · rw [if_neg c5] at H
      exact absurd H (by simp)
  · rw [if_neg c4] at H
    exact absurd H (by simp)

/-! ### words_Field: function 41 -/
def words_Field.f (a0 : ByteArray) : Option (ByteArray) := if a0.toList = ([110, 105, 108] : List UInt8) then (some (⟨#[116, 97, 98, 108, 101, 32, 105, 110, 100, 101, 120, 32, 105, 115, 32, 110, 105, 108]⟩ : ByteArray)) else (if a0.toList = ([100, 101, 97, 100] : List UInt8) then (some (⟨#[99, 97, 110, 110, 111, 116, 32, 114, 101, 115, 117, 109, 101, 32, 100, 101, 97, 100, 32, 99, 111, 114, 111, 117, 116, 105, 110, 101]⟩ : ByteArray)) else (if a0.toList = ([115, 101, 108, 102] : List UInt8) then (some (⟨#[99, 97, 110, 110, 111, 116, 32, 114, 101, 115, 117, 109, 101, 32, 110, 111, 110, 45, 115, 117, 115, 112, 101, 110, 100, 101, 100, 32, 99, 111, 114, 111, 117, 116, 105, 110, 101]⟩ : ByteArray)) else (if a0.toList = ([114, 117, 110, 110, 105, 110, 103] : List UInt8) then (some (⟨#[99, 97, 110, 110, 111, 116, 32, 114, 101, 115, 117, 109, 101, 32, 110, 111, 110, 45, 115, 117, 115, 112, 101, 110, 100, 101, 100, 32, 99, 111, 114, 111, 117, 116, 105, 110, 101]⟩ : ByteArray)) else (if a0.toList = ([121, 105, 101, 108, 100] : List UInt8) then (some (⟨#[97, 116, 116, 101, 109, 112, 116, 32, 116, 111, 32, 121, 105, 101, 108, 100, 32, 102, 114, 111, 109, 32, 111, 117, 116, 115, 105, 100, 101, 32, 97, 32, 99, 111, 114, 111, 117, 116, 105, 110, 101]⟩ : ByteArray)) else (if a0.toList = ([99, 104, 97, 105, 110] : List UInt8) then (some (⟨#[39, 95, 95, 105, 110, 100, 101, 120, 39, 32, 99, 104, 97, 105, 110, 32, 116, 111, 111, 32, 108, 111, 110, 103, 59, 32, 112, 111, 115, 115, 105, 98, 108, 121, 32, 97, 32, 108, 111, 111, 112]⟩ : ByteArray)) else (if a0.toList = ([99, 108, 111, 115, 101] : List UInt8) then (some (⟨#[99, 97, 110, 110, 111, 116, 32, 99, 108, 111, 115, 101, 32, 97, 32, 114, 117, 110, 110, 105, 110, 103, 32, 99, 111, 114, 111, 117, 116, 105, 110, 101]⟩ : ByteArray)) else (if a0.toList = ([110, 101, 120, 116] : List UInt8) then (some (⟨#[105, 110, 118, 97, 108, 105, 100, 32, 107, 101, 121, 32, 116, 111, 32, 39, 110, 101, 120, 116, 39]⟩ : ByteArray)) else (if a0.toList = ([108, 111, 110, 103] : List UInt8) then (some (⟨#[116, 111, 111, 32, 109, 97, 110, 121, 32, 114, 101, 115, 117, 108, 116, 115]⟩ : ByteArray)) else (if a0.toList = ([115, 101, 116] : List UInt8) then (some (⟨#[119, 114, 111, 110, 103, 32, 110, 117, 109, 98, 101, 114, 32, 111, 102, 32, 97, 114, 103, 117, 109, 101, 110, 116, 115]⟩ : ByteArray)) else (some (⟨#[]⟩ : ByteArray)))))))))))
set_option maxHeartbeats 8000000 in
set_option maxRecDepth 100000 in
theorem words_Field.calls (a0 : ByteArray) (r : ByteArray) (w : World) (h : words_Field.f a0 = some r) :
    Calls Tryd.prog 41 #[.string a0] w fun e w' => e = .returned (.string r) ∧ Drawn0 w w' := by
  have H : (if a0.toList = ([110, 105, 108] : List UInt8) then (some (⟨#[116, 97, 98, 108, 101, 32, 105, 110, 100, 101, 120, 32, 105, 115, 32, 110, 105, 108]⟩ : ByteArray)) else (if a0.toList = ([100, 101, 97, 100] : List UInt8) then (some (⟨#[99, 97, 110, 110, 111, 116, 32, 114, 101, 115, 117, 109, 101, 32, 100, 101, 97, 100, 32, 99, 111, 114, 111, 117, 116, 105, 110, 101]⟩ : ByteArray)) else (if a0.toList = ([115, 101, 108, 102] : List UInt8) then (some (⟨#[99, 97, 110, 110, 111, 116, 32, 114, 101, 115, 117, 109, 101, 32, 110, 111, 110, 45, 115, 117, 115, 112, 101, 110, 100, 101, 100, 32, 99, 111, 114, 111, 117, 116, 105, 110, 101]⟩ : ByteArray)) else (if a0.toList = ([114, 117, 110, 110, 105, 110, 103] : List UInt8) then (some (⟨#[99, 97, 110, 110, 111, 116, 32, 114, 101, 115, 117, 109, 101, 32, 110, 111, 110, 45, 115, 117, 115, 112, 101, 110, 100, 101, 100, 32, 99, 111, 114, 111, 117, 116, 105, 110, 101]⟩ : ByteArray)) else (if a0.toList = ([121, 105, 101, 108, 100] : List UInt8) then (some (⟨#[97, 116, 116, 101, 109, 112, 116, 32, 116, 111, 32, 121, 105, 101, 108, 100, 32, 102, 114, 111, 109, 32, 111, 117, 116, 115, 105, 100, 101, 32, 97, 32, 99, 111, 114, 111, 117, 116, 105, 110, 101]⟩ : ByteArray)) else (if a0.toList = ([99, 104, 97, 105, 110] : List UInt8) then (some (⟨#[39, 95, 95, 105, 110, 100, 101, 120, 39, 32, 99, 104, 97, 105, 110, 32, 116, 111, 111, 32, 108, 111, 110, 103, 59, 32, 112, 111, 115, 115, 105, 98, 108, 121, 32, 97, 32, 108, 111, 111, 112]⟩ : ByteArray)) else (if a0.toList = ([99, 108, 111, 115, 101] : List UInt8) then (some (⟨#[99, 97, 110, 110, 111, 116, 32, 99, 108, 111, 115, 101, 32, 97, 32, 114, 117, 110, 110, 105, 110, 103, 32, 99, 111, 114, 111, 117, 116, 105, 110, 101]⟩ : ByteArray)) else (if a0.toList = ([110, 101, 120, 116] : List UInt8) then (some (⟨#[105, 110, 118, 97, 108, 105, 100, 32, 107, 101, 121, 32, 116, 111, 32, 39, 110, 101, 120, 116, 39]⟩ : ByteArray)) else (if a0.toList = ([108, 111, 110, 103] : List UInt8) then (some (⟨#[116, 111, 111, 32, 109, 97, 110, 121, 32, 114, 101, 115, 117, 108, 116, 115]⟩ : ByteArray)) else (if a0.toList = ([115, 101, 116] : List UInt8) then (some (⟨#[119, 114, 111, 110, 103, 32, 110, 117, 109, 98, 101, 114, 32, 111, 102, 32, 97, 114, 103, 117, 109, 101, 110, 116, 115]⟩ : ByteArray)) else (some (⟨#[]⟩ : ByteArray)))))))))))) = some r := h
  clear h
  by_cases c2 : a0.toList = ([110, 105, 108] : List UInt8)
  · rw [if_pos c2] at H
    have c2b0 : (a0.toList == ([110, 105, 108] : List UInt8)) = true := beq_iff_eq.mpr c2
    have c2b1 : (a0.toList != ([110, 105, 108] : List UInt8)) = false := bne_eq_false_iff_eq.mpr c2
    clear c2
    obtain rfl := Option.some.inj H
    go_enter Tryd.func41, Tryd.ntmps41
    go_wp2
    go_ret
    exact ⟨by first | rfl | (simp; done) | (simp [*]; done) | (simp; exact TabW.bclose _ _) | (simp; exact TabW.bclose2 _), by repeat (first | exact Drawn0.refl _ | apply Drawn0.step)⟩
  · rw [if_neg c2] at H
    have c2b0 : (a0.toList == ([110, 105, 108] : List UInt8)) = false := beq_eq_false_iff_ne.mpr c2
    have c2b1 : (a0.toList != ([110, 105, 108] : List UInt8)) = true := bne_iff_ne.mpr c2
    by_cases c3 : a0.toList = ([100, 101, 97, 100] : List UInt8)
    · rw [if_pos c3] at H
      have c3b0 : (a0.toList == ([100, 101, 97, 100] : List UInt8)) = true := beq_iff_eq.mpr c3
      have c3b1 : (a0.toList != ([100, 101, 97, 100] : List UInt8)) = false := bne_eq_false_iff_eq.mpr c3
      clear c3
      obtain rfl := Option.some.inj H
      go_enter Tryd.func41, Tryd.ntmps41
      go_wp2
      go_ret
      exact ⟨by first | rfl | (simp; done) | (simp [*]; done) | (simp; exact TabW.bclose _ _) | (simp; exact TabW.bclose2 _), by repeat (first | exact Drawn0.refl _ | apply Drawn0.step)⟩
    · rw [if_neg c3] at H
      have c3b0 : (a0.toList == ([100, 101, 97, 100] : List UInt8)) = false := beq_eq_false_iff_ne.mpr c3
      have c3b1 : (a0.toList != ([100, 101, 97, 100] : List UInt8)) = true := bne_iff_ne.mpr c3
      by_cases c4 : a0.toList = ([115, 101, 108, 102] : List UInt8)
      · rw [if_pos c4] at H
        have c4b0 : (a0.toList == ([115, 101, 108, 102] : List UInt8)) = true := beq_iff_eq.mpr c4
        have c4b1 : (a0.toList != ([115, 101, 108, 102] : List UInt8)) = false := bne_eq_false_iff_eq.mpr c4
        clear c4
        obtain rfl := Option.some.inj H
        go_enter Tryd.func41, Tryd.ntmps41
        go_wp2
        go_ret
        exact ⟨by first | rfl | (simp; done) | (simp [*]; done) | (simp; exact TabW.bclose _ _) | (simp; exact TabW.bclose2 _), by repeat (first | exact Drawn0.refl _ | apply Drawn0.step)⟩
      · rw [if_neg c4] at H
        have c4b0 : (a0.toList == ([115, 101, 108, 102] : List UInt8)) = false := beq_eq_false_iff_ne.mpr c4
        have c4b1 : (a0.toList != ([115, 101, 108, 102] : List UInt8)) = true := bne_iff_ne.mpr c4
        by_cases c5 : a0.toList = ([114, 117, 110, 110, 105, 110, 103] : List UInt8)
        · rw [if_pos c5] at H
          have c5b0 : (a0.toList == ([114, 117, 110, 110, 105, 110, 103] : List UInt8)) = true := beq_iff_eq.mpr c5
          have c5b1 : (a0.toList != ([114, 117, 110, 110, 105, 110, 103] : List UInt8)) = false := bne_eq_false_iff_eq.mpr c5
          clear c5
          obtain rfl := Option.some.inj H
          go_enter Tryd.func41, Tryd.ntmps41
          go_wp2
          go_ret
          exact ⟨by first | rfl | (simp; done) | (simp [*]; done) | (simp; exact TabW.bclose _ _) | (simp; exact TabW.bclose2 _), by repeat (first | exact Drawn0.refl _ | apply Drawn0.step)⟩
        · rw [if_neg c5] at H
          have c5b0 : (a0.toList == ([114, 117, 110, 110, 105, 110, 103] : List UInt8)) = false := beq_eq_false_iff_ne.mpr c5
          have c5b1 : (a0.toList != ([114, 117, 110, 110, 105, 110, 103] : List UInt8)) = true := bne_iff_ne.mpr c5
          by_cases c6 : a0.toList = ([121, 105, 101, 108, 100] : List UInt8)
          · rw [if_pos c6] at H
            have c6b0 : (a0.toList == ([121, 105, 101, 108, 100] : List UInt8)) = true := beq_iff_eq.mpr c6
            have c6b1 : (a0.toList != ([121, 105, 101, 108, 100] : List UInt8)) = false := bne_eq_false_iff_eq.mpr c6
            clear c6
            obtain rfl := Option.some.inj H
            go_enter Tryd.func41, Tryd.ntmps41
            go_wp2
            go_ret
            exact ⟨by first | rfl | (simp; done) | (simp [*]; done) | (simp; exact TabW.bclose _ _) | (simp; exact TabW.bclose2 _), by repeat (first | exact Drawn0.refl _ | apply Drawn0.step)⟩
          · rw [if_neg c6] at H
            have c6b0 : (a0.toList == ([121, 105, 101, 108, 100] : List UInt8)) = false := beq_eq_false_iff_ne.mpr c6
            have c6b1 : (a0.toList != ([121, 105, 101, 108, 100] : List UInt8)) = true := bne_iff_ne.mpr c6
            by_cases c7 : a0.toList = ([99, 104, 97, 105, 110] : List UInt8)
            · rw [if_pos c7] at H
              have c7b0 : (a0.toList == ([99, 104, 97, 105, 110] : List UInt8)) = true := beq_iff_eq.mpr c7
              have c7b1 : (a0.toList != ([99, 104, 97, 105, 110] : List UInt8)) = false := bne_eq_false_iff_eq.mpr c7
              clear c7
              obtain rfl := Option.some.inj H
              go_enter Tryd.func41, Tryd.ntmps41
              go_wp2
              go_ret
              exact ⟨by first | rfl | (simp; done) | (simp [*]; done) | (simp; exact TabW.bclose _ _) | (simp; exact TabW.bclose2 _), by repeat (first | exact Drawn0.refl _ | apply Drawn0.step)⟩
            · rw [if_neg c7] at H
              have c7b0 : (a0.toList == ([99, 104, 97, 105, 110] : List UInt8)) = false := beq_eq_false_iff_ne.mpr c7
              have c7b1 : (a0.toList != ([99, 104, 97, 105, 110] : List UInt8)) = true := bne_iff_ne.mpr c7
              by_cases c8 : a0.toList = ([99, 108, 111, 115, 101] : List UInt8)
              · rw [if_pos c8] at H
                have c8b0 : (a0.toList == ([99, 108, 111, 115, 101] : List UInt8)) = true := beq_iff_eq.mpr c8
                have c8b1 : (a0.toList != ([99, 108, 111, 115, 101] : List UInt8)) = false := bne_eq_false_iff_eq.mpr c8
                clear c8
                obtain rfl := Option.some.inj H
                go_enter Tryd.func41, Tryd.ntmps41
                go_wp2
                go_ret
                exact ⟨by first | rfl | (simp; done) | (simp [*]; done) | (simp; exact TabW.bclose _ _) | (simp; exact TabW.bclose2 _), by repeat (first | exact Drawn0.refl _ | apply Drawn0.step)⟩
              · rw [if_neg c8] at H
                have c8b0 : (a0.toList == ([99, 108, 111, 115, 101] : List UInt8)) = false := beq_eq_false_iff_ne.mpr c8
                have c8b1 : (a0.toList != ([99, 108, 111, 115, 101] : List UInt8)) = true := bne_iff_ne.mpr c8
                by_cases c9 : a0.toList = ([110, 101, 120, 116] : List UInt8)
                · rw [if_pos c9] at H
                  have c9b0 : (a0.toList == ([110, 101, 120, 116] : List UInt8)) = true := beq_iff_eq.mpr c9
                  have c9b1 : (a0.toList != ([110, 101, 120, 116] : List UInt8)) = false := bne_eq_false_iff_eq.mpr c9
                  clear c9
                  obtain rfl := Option.some.inj H
                  go_enter Tryd.func41, Tryd.ntmps41
                  go_wp2
                  go_ret
                  exact ⟨by first | rfl | (simp; done) | (simp [*]; done) | (simp; exact TabW.bclose _ _) | (simp; exact TabW.bclose2 _), by repeat (first | exact Drawn0.refl _ | apply Drawn0.step)⟩
                · rw [if_neg c9] at H
                  have c9b0 : (a0.toList == ([110, 101, 120, 116] : List UInt8)) = false := beq_eq_false_iff_ne.mpr c9
                  have c9b1 : (a0.toList != ([110, 101, 120, 116] : List UInt8)) = true := bne_iff_ne.mpr c9
                  by_cases c10 : a0.toList = ([108, 111, 110, 103] : List UInt8)
                  · rw [if_pos c10] at H
                    have c10b0 : (a0.toList == ([108, 111, 110, 103] : List UInt8)) = true := beq_iff_eq.mpr c10
                    have c10b1 : (a0.toList != ([108, 111, 110, 103] : List UInt8)) = false := bne_eq_false_iff_eq.mpr c10
                    clear c10
                    obtain rfl := Option.some.inj H
                    go_enter Tryd.func41, Tryd.ntmps41
                    go_wp2
                    go_ret
                    exact ⟨by first | rfl | (simp; done) | (simp [*]; done) | (simp; exact TabW.bclose _ _) | (simp; exact TabW.bclose2 _), by repeat (first | exact Drawn0.refl _ | apply Drawn0.step)⟩
                  · rw [if_neg c10] at H
                    have c10b0 : (a0.toList == ([108, 111, 110, 103] : List UInt8)) = false := beq_eq_false_iff_ne.mpr c10
                    have c10b1 : (a0.toList != ([108, 111, 110, 103] : List UInt8)) = true := bne_iff_ne.mpr c10
                    by_cases c11 : a0.toList = ([115, 101, 116] : List UInt8)
                    · rw [if_pos c11] at H
                      have c11b0 : (a0.toList == ([115, 101, 116] : List UInt8)) = true := beq_iff_eq.mpr c11
                      have c11b1 : (a0.toList != ([115, 101, 116] : List UInt8)) = false := bne_eq_false_iff_eq.mpr c11
                      clear c11
                      obtain rfl := Option.some.inj H
                      go_enter Tryd.func41, Tryd.ntmps41
                      go_wp2
                      go_ret
                      exact ⟨by first | rfl | (simp; done) | (simp [*]; done) | (simp; exact TabW.bclose _ _) | (simp; exact TabW.bclose2 _), by repeat (first | exact Drawn0.refl _ | apply Drawn0.step)⟩
                    · rw [if_neg c11] at H
                      have c11b0 : (a0.toList == ([115, 101, 116] : List UInt8)) = false := beq_eq_false_iff_ne.mpr c11
                      have c11b1 : (a0.toList != ([115, 101, 116] : List UInt8)) = true := bne_iff_ne.mpr c11
                      obtain rfl := Option.some.inj H
                      go_enter Tryd.func41, Tryd.ntmps41
                      go_wp2
                      go_ret
                      exact ⟨by first | rfl | (simp; done) | (simp [*]; done) | (simp; exact TabW.bclose _ _) | (simp; exact TabW.bclose2 _), by repeat (first | exact Drawn0.refl _ | apply Drawn0.step)⟩

/-! ### selkieref10_Field: function 42 -/
def selkieref10_Field.j0 : Nat → ByteArray → Bool → Option (ByteArray)
  | 0, _, _ => none
  | k + 1, x3, x8 => if x8 = true then (some (⟨#[99, 97, 110, 110, 111, 116, 32, 114, 101, 115, 117, 109, 101, 32, 110, 111, 110, 45, 115, 117, 115, 112, 101, 110, 100, 101, 100, 32, 99, 111, 114, 111, 117, 116, 105, 110, 101]⟩ : ByteArray)) else (if x3.toList = ([121, 105, 101, 108, 100] : List UInt8) then (some (⟨#[97, 116, 116, 101, 109, 112, 116, 32, 116, 111, 32, 121, 105, 101, 108, 100, 32, 102, 114, 111, 109, 32, 111, 117, 116, 115, 105, 100, 101, 32, 97, 32, 99, 111, 114, 111, 117, 116, 105, 110, 101]⟩ : ByteArray)) else (if x3.toList = ([99, 104, 97, 105, 110] : List UInt8) then (some (⟨#[39, 95, 95, 105, 110, 100, 101, 120, 39, 32, 99, 104, 97, 105, 110, 32, 116, 111, 111, 32, 108, 111, 110, 103, 59, 32, 112, 111, 115, 115, 105, 98, 108, 121, 32, 97, 32, 108, 111, 111, 112]⟩ : ByteArray)) else (if x3.toList = ([99, 108, 111, 115, 101] : List UInt8) then (some (⟨#[99, 97, 110, 110, 111, 116, 32, 99, 108, 111, 115, 101, 32, 97, 32, 114, 117, 110, 110, 105, 110, 103, 32, 99, 111, 114, 111, 117, 116, 105, 110, 101]⟩ : ByteArray)) else (if x3.toList = ([110, 101, 120, 116] : List UInt8) then (some (⟨#[105, 110, 118, 97, 108, 105, 100, 32, 107, 101, 121, 32, 116, 111, 32, 39, 110, 101, 120, 116, 39]⟩ : ByteArray)) else (if x3.toList = ([108, 111, 110, 103] : List UInt8) then (some (⟨#[116, 111, 111, 32, 109, 97, 110, 121, 32, 114, 101, 115, 117, 108, 116, 115]⟩ : ByteArray)) else (if x3.toList = ([115, 101, 116] : List UInt8) then (some (⟨#[119, 114, 111, 110, 103, 32, 110, 117, 109, 98, 101, 114, 32, 111, 102, 32, 97, 114, 103, 117, 109, 101, 110, 116, 115]⟩ : ByteArray)) else (some (⟨#[]⟩ : ByteArray))))))))
def selkieref10_Field.f (k : Nat) (a0 : ByteArray) : Option (ByteArray) := if a0.toList = ([110, 105, 108] : List UInt8) then (some (⟨#[116, 97, 98, 108, 101, 32, 105, 110, 100, 101, 120, 32, 105, 115, 32, 110, 105, 108]⟩ : ByteArray)) else (if a0.toList = ([100, 101, 97, 100] : List UInt8) then (some (⟨#[99, 97, 110, 110, 111, 116, 32, 114, 101, 115, 117, 109, 101, 32, 100, 101, 97, 100, 32, 99, 111, 114, 111, 117, 116, 105, 110, 101]⟩ : ByteArray)) else (if a0.toList = ([115, 101, 108, 102] : List UInt8) then (selkieref10_Field.j0 k a0 (a0.toList == ([115, 101, 108, 102] : List UInt8))) else (selkieref10_Field.j0 k a0 (a0.toList == ([114, 117, 110, 110, 105, 110, 103] : List UInt8)))))
theorem selkieref10_Field.mono_l : ∀ k, (∀ y0 y1, LeO (selkieref10_Field.j0 k y0 y1) (selkieref10_Field.j0 (k + 1) y0 y1))
  | 0 => fun _ _ r h => by simp [selkieref10_Field.j0] at h
  | k + 1 => by
    have ih0 := selkieref10_Field.mono_l k
    · intro y0 y1
      unfold selkieref10_Field.j0
      repeat' first
      | (with_reducible exact ih0 _ _)
      | (with_reducible exact LeO.refl _)
      | (with_reducible exact LeO.none _)
      | (with_reducible refine LeO.ite ?_ ?_)
      | (with_reducible refine LeO.bind ?_ (fun _ => ?_))
      | exact ih0 _ _
      | exact LeO.none _
      | refine LeO.ite ?_ ?_
      | refine LeO.bind ?_ (fun _ => ?_)
theorem selkieref10_Field.mono : ∀ a0 k, LeO (selkieref10_Field.f k a0) (selkieref10_Field.f (k + 1) a0) := by
  intro a0 k
  have ih0 := selkieref10_Field.mono_l k
  unfold selkieref10_Field.f
  repeat' first
      | (with_reducible exact ih0 _ _)
      | (with_reducible exact LeO.refl _)
      | (with_reducible exact LeO.none _)
      | (with_reducible refine LeO.ite ?_ ?_)
      | (with_reducible refine LeO.bind ?_ (fun _ => ?_))
      | exact ih0 _ _
      | exact LeO.none _
      | refine LeO.ite ?_ ?_
      | refine LeO.bind ?_ (fun _ => ?_)
set_option maxHeartbeats 8000000 in
set_option maxRecDepth 100000 in
theorem selkieref10_Field.calls (k : Nat) (a0 : ByteArray) (r : ByteArray) (w : World) (h : selkieref10_Field.f k a0 = some r) :
    Calls Tryd.prog 42 #[.string a0] w fun e w' => e = .returned (.string r) ∧ Drawn0 w w' := by
  have H : (if a0.toList = ([110, 105, 108] : List UInt8) then (some (⟨#[116, 97, 98, 108, 101, 32, 105, 110, 100, 101, 120, 32, 105, 115, 32, 110, 105, 108]⟩ : ByteArray)) else (if a0.toList = ([100, 101, 97, 100] : List UInt8) then (some (⟨#[99, 97, 110, 110, 111, 116, 32, 114, 101, 115, 117, 109, 101, 32, 100, 101, 97, 100, 32, 99, 111, 114, 111, 117, 116, 105, 110, 101]⟩ : ByteArray)) else (if a0.toList = ([115, 101, 108, 102] : List UInt8) then (selkieref10_Field.j0 k a0 (a0.toList == ([115, 101, 108, 102] : List UInt8))) else (selkieref10_Field.j0 k a0 (a0.toList == ([114, 117, 110, 110, 105, 110, 103] : List UInt8)))))) = some r := h
  clear h
  by_cases c2 : a0.toList = ([110, 105, 108] : List UInt8)
  · rw [if_pos c2] at H
    have c2b0 : (a0.toList == ([110, 105, 108] : List UInt8)) = true := beq_iff_eq.mpr c2
    have c2b1 : (a0.toList != ([110, 105, 108] : List UInt8)) = false := bne_eq_false_iff_eq.mpr c2
    clear c2
    obtain rfl := Option.some.inj H
    go_enter Tryd.func42, Tryd.ntmps42
    go_wp2
    go_ret
    exact ⟨by first | rfl | (simp; done) | (simp [*]; done) | (simp; exact TabW.bclose _ _) | (simp; exact TabW.bclose2 _), by repeat (first | exact Drawn0.refl _ | apply Drawn0.step)⟩
  · rw [if_neg c2] at H
    have c2b0 : (a0.toList == ([110, 105, 108] : List UInt8)) = false := beq_eq_false_iff_ne.mpr c2
    have c2b1 : (a0.toList != ([110, 105, 108] : List UInt8)) = true := bne_iff_ne.mpr c2
    by_cases c3 : a0.toList = ([100, 101, 97, 100] : List UInt8)
    · rw [if_pos c3] at H
      have c3b0 : (a0.toList == ([100, 101, 97, 100] : List UInt8)) = true := beq_iff_eq.mpr c3
      have c3b1 : (a0.toList != ([100, 101, 97, 100] : List UInt8)) = false := bne_eq_false_iff_eq.mpr c3
      clear c3
      obtain rfl := Option.some.inj H
      go_enter Tryd.func42, Tryd.ntmps42
      go_wp2
      go_ret
      exact ⟨by first | rfl | (simp; done) | (simp [*]; done) | (simp; exact TabW.bclose _ _) | (simp; exact TabW.bclose2 _), by repeat (first | exact Drawn0.refl _ | apply Drawn0.step)⟩
    · rw [if_neg c3] at H
      have c3b0 : (a0.toList == ([100, 101, 97, 100] : List UInt8)) = false := beq_eq_false_iff_ne.mpr c3
      have c3b1 : (a0.toList != ([100, 101, 97, 100] : List UInt8)) = true := bne_iff_ne.mpr c3
      have HC4 := Aside0.mk H
      clear H
      go_enter Tryd.func42, Tryd.ntmps42
      go_upto_if 8 with (fail)
      go_cut [8] (fun v8 wc => ∃ (kq : Nat) (x8_3 : Bool), v8 = .bool x8_3 ∧ Aside0 (selkieref10_Field.j0 kq a0 x8_3 = some r) ∧ Aside0 (kq ≤ k) ∧ Drawn0 w wc)
      case first =>
        have H := HC4.out
        clear HC4
        by_cases c5 : a0.toList = ([115, 101, 108, 102] : List UInt8)
        · rw [if_pos c5] at H
          have c5b0 : (a0.toList == ([115, 101, 108, 102] : List UInt8)) = true := beq_iff_eq.mpr c5
          have c5b1 : (a0.toList != ([115, 101, 108, 102] : List UInt8)) = false := bne_eq_false_iff_eq.mpr c5
          clear c5
          (first | rw [c5b0] | (simp only [i64_w, i32_w]; rw [c5b0]) | skip)
          have H' := Aside0.mk H
          clear H
          go_wp2
          go_meet
          case rel => exact ⟨_, ((a0.toList == ([115, 101, 108, 102] : List UInt8))), (by first | rfl | (simp; done) | (simp [*]; done) | (simp; exact TabW.bclose _ _) | (simp; exact TabW.bclose2 _)), H', ⟨by first | omega | exact Nat.le_refl _⟩, by repeat (first | exact Drawn0.refl _ | apply Drawn0.step)⟩
        · rw [if_neg c5] at H
          have c5b0 : (a0.toList == ([115, 101, 108, 102] : List UInt8)) = false := beq_eq_false_iff_ne.mpr c5
          have c5b1 : (a0.toList != ([115, 101, 108, 102] : List UInt8)) = true := bne_iff_ne.mpr c5
          (first | rw [c5b0] | (simp only [i64_w, i32_w]; rw [c5b0]) | skip)
          have H' := Aside0.mk H
          clear H
          go_wp2
          go_meet
          case rel => exact ⟨_, ((a0.toList == ([114, 117, 110, 110, 105, 110, 103] : List UInt8))), (by first | rfl | (simp; done) | (simp [*]; done) | (simp; exact TabW.bclose _ _) | (simp; exact TabW.bclose2 _)), H', ⟨by first | omega | exact Nat.le_refl _⟩, by repeat (first | exact Drawn0.refl _ | apply Drawn0.step)⟩
      case rest =>
        clear HC4
        try clear c2
        try clear c2b0
        try clear c2b1
        try clear p2
        try clear c3
        try clear c3b0
        try clear c3b1
        try clear c4
        try clear c5
        try clear c5b0
        try clear c5b1
        obtain ⟨kq, x8_3, rfl, HA, HJ3, ⟨mc3, rfl⟩⟩ := hcut
        cases kq with
        | zero => exact absurd HA.out (by simp [selkieref10_Field.j0])
        | succ kj3 =>
          have H := HA.out
          clear HA
          simp only [selkieref10_Field.j0] at H
          by_cases c6 : x8_3 = true
          · subst c6
            have H1 : (some (⟨#[99, 97, 110, 110, 111, 116, 32, 114, 101, 115, 117, 109, 101, 32, 110, 111, 110, 45, 115, 117, 115, 112, 101, 110, 100, 101, 100, 32, 99, 111, 114, 111, 117, 116, 105, 110, 101]⟩ : ByteArray)) = some r := by rw [if_pos rfl] at H; exact H
            clear H
            have H := H1
            clear H1
            obtain rfl := Option.some.inj H
            go_wp2
            go_ret
            exact ⟨by first | rfl | (simp; done) | (simp [*]; done) | (simp; exact TabW.bclose _ _) | (simp; exact TabW.bclose2 _), by repeat (first | exact Drawn0.refl _ | apply Drawn0.step)⟩
          · replace c6 := Bool.eq_false_iff.mpr c6
            subst c6
            have H1 : (if a0.toList = ([121, 105, 101, 108, 100] : List UInt8) then (some (⟨#[97, 116, 116, 101, 109, 112, 116, 32, 116, 111, 32, 121, 105, 101, 108, 100, 32, 102, 114, 111, 109, 32, 111, 117, 116, 115, 105, 100, 101, 32, 97, 32, 99, 111, 114, 111, 117, 116, 105, 110, 101]⟩ : ByteArray)) else (if a0.toList = ([99, 104, 97, 105, 110] : List UInt8) then (some (⟨#[39, 95, 95, 105, 110, 100, 101, 120, 39, 32, 99, 104, 97, 105, 110, 32, 116, 111, 111, 32, 108, 111, 110, 103, 59, 32, 112, 111, 115, 115, 105, 98, 108, 121, 32, 97, 32, 108, 111, 111, 112]⟩ : ByteArray)) else (if a0.toList = ([99, 108, 111, 115, 101] : List UInt8) then (some (⟨#[99, 97, 110, 110, 111, 116, 32, 99, 108, 111, 115, 101, 32, 97, 32, 114, 117, 110, 110, 105, 110, 103, 32, 99, 111, 114, 111, 117, 116, 105, 110, 101]⟩ : ByteArray)) else (if a0.toList = ([110, 101, 120, 116] : List UInt8) then (some (⟨#[105, 110, 118, 97, 108, 105, 100, 32, 107, 101, 121, 32, 116, 111, 32, 39, 110, 101, 120, 116, 39]⟩ : ByteArray)) else (if a0.toList = ([108, 111, 110, 103] : List UInt8) then (some (⟨#[116, 111, 111, 32, 109, 97, 110, 121, 32, 114, 101, 115, 117, 108, 116, 115]⟩ : ByteArray)) else (if a0.toList = ([115, 101, 116] : List UInt8) then (some (⟨#[119, 114, 111, 110, 103, 32, 110, 117, 109, 98, 101, 114, 32, 111, 102, 32, 97, 114, 103, 117, 109, 101, 110, 116, 115]⟩ : ByteArray)) else (some (⟨#[]⟩ : ByteArray)))))))) = some r := by rw [if_neg (show ¬ (false = true) by decide)] at H; exact H
            clear H
            have H := H1
            clear H1
            by_cases c7 : a0.toList = ([121, 105, 101, 108, 100] : List UInt8)
            · rw [if_pos c7] at H
              have c7b0 : (a0.toList == ([121, 105, 101, 108, 100] : List UInt8)) = true := beq_iff_eq.mpr c7
              have c7b1 : (a0.toList != ([121, 105, 101, 108, 100] : List UInt8)) = false := bne_eq_false_iff_eq.mpr c7
              clear c7
              obtain rfl := Option.some.inj H
              go_wp2
              go_ret
              exact ⟨by first | rfl | (simp; done) | (simp [*]; done) | (simp; exact TabW.bclose _ _) | (simp; exact TabW.bclose2 _), by repeat (first | exact Drawn0.refl _ | apply Drawn0.step)⟩
            · rw [if_neg c7] at H
              have c7b0 : (a0.toList == ([121, 105, 101, 108, 100] : List UInt8)) = false := beq_eq_false_iff_ne.mpr c7
              have c7b1 : (a0.toList != ([121, 105, 101, 108, 100] : List UInt8)) = true := bne_iff_ne.mpr c7
              by_cases c8 : a0.toList = ([99, 104, 97, 105, 110] : List UInt8)
              · rw [if_pos c8] at H
                have c8b0 : (a0.toList == ([99, 104, 97, 105, 110] : List UInt8)) = true := beq_iff_eq.mpr c8
                have c8b1 : (a0.toList != ([99, 104, 97, 105, 110] : List UInt8)) = false := bne_eq_false_iff_eq.mpr c8
                clear c8
                obtain rfl := Option.some.inj H
                go_wp2
                go_ret
                exact ⟨by first | rfl | (simp; done) | (simp [*]; done) | (simp; exact TabW.bclose _ _) | (simp; exact TabW.bclose2 _), by repeat (first | exact Drawn0.refl _ | apply Drawn0.step)⟩
              · rw [if_neg c8] at H
                have c8b0 : (a0.toList == ([99, 104, 97, 105, 110] : List UInt8)) = false := beq_eq_false_iff_ne.mpr c8
                have c8b1 : (a0.toList != ([99, 104, 97, 105, 110] : List UInt8)) = true := bne_iff_ne.mpr c8
                by_cases c9 : a0.toList = ([99, 108, 111, 115, 101] : List UInt8)
                · rw [if_pos c9] at H
                  have c9b0 : (a0.toList == ([99, 108, 111, 115, 101] : List UInt8)) = true := beq_iff_eq.mpr c9
                  have c9b1 : (a0.toList != ([99, 108, 111, 115, 101] : List UInt8)) = false := bne_eq_false_iff_eq.mpr c9
                  clear c9
                  obtain rfl := Option.some.inj H
                  go_wp2
                  go_ret
                  exact ⟨by first | rfl | (simp; done) | (simp [*]; done) | (simp; exact TabW.bclose _ _) | (simp; exact TabW.bclose2 _), by repeat (first | exact Drawn0.refl _ | apply Drawn0.step)⟩
                · rw [if_neg c9] at H
                  have c9b0 : (a0.toList == ([99, 108, 111, 115, 101] : List UInt8)) = false := beq_eq_false_iff_ne.mpr c9
                  have c9b1 : (a0.toList != ([99, 108, 111, 115, 101] : List UInt8)) = true := bne_iff_ne.mpr c9
                  by_cases c10 : a0.toList = ([110, 101, 120, 116] : List UInt8)
                  · rw [if_pos c10] at H
                    have c10b0 : (a0.toList == ([110, 101, 120, 116] : List UInt8)) = true := beq_iff_eq.mpr c10
                    have c10b1 : (a0.toList != ([110, 101, 120, 116] : List UInt8)) = false := bne_eq_false_iff_eq.mpr c10
                    clear c10
                    obtain rfl := Option.some.inj H
                    go_wp2
                    go_ret
                    exact ⟨by first | rfl | (simp; done) | (simp [*]; done) | (simp; exact TabW.bclose _ _) | (simp; exact TabW.bclose2 _), by repeat (first | exact Drawn0.refl _ | apply Drawn0.step)⟩
                  · rw [if_neg c10] at H
                    have c10b0 : (a0.toList == ([110, 101, 120, 116] : List UInt8)) = false := beq_eq_false_iff_ne.mpr c10
                    have c10b1 : (a0.toList != ([110, 101, 120, 116] : List UInt8)) = true := bne_iff_ne.mpr c10
                    by_cases c11 : a0.toList = ([108, 111, 110, 103] : List UInt8)
                    · rw [if_pos c11] at H
                      have c11b0 : (a0.toList == ([108, 111, 110, 103] : List UInt8)) = true := beq_iff_eq.mpr c11
                      have c11b1 : (a0.toList != ([108, 111, 110, 103] : List UInt8)) = false := bne_eq_false_iff_eq.mpr c11
                      clear c11
                      obtain rfl := Option.some.inj H
                      go_wp2
                      go_ret
                      exact ⟨by first | rfl | (simp; done) | (simp [*]; done) | (simp; exact TabW.bclose _ _) | (simp; exact TabW.bclose2 _), by repeat (first | exact Drawn0.refl _ | apply Drawn0.step)⟩
                    · rw [if_neg c11] at H
                      have c11b0 : (a0.toList == ([108, 111, 110, 103] : List UInt8)) = false := beq_eq_false_iff_ne.mpr c11
                      have c11b1 : (a0.toList != ([108, 111, 110, 103] : List UInt8)) = true := bne_iff_ne.mpr c11
                      by_cases c12 : a0.toList = ([115, 101, 116] : List UInt8)
                      · rw [if_pos c12] at H
                        have c12b0 : (a0.toList == ([115, 101, 116] : List UInt8)) = true := beq_iff_eq.mpr c12
                        have c12b1 : (a0.toList != ([115, 101, 116] : List UInt8)) = false := bne_eq_false_iff_eq.mpr c12
                        clear c12
                        obtain rfl := Option.some.inj H
                        go_wp2
                        go_ret
                        exact ⟨by first | rfl | (simp; done) | (simp [*]; done) | (simp; exact TabW.bclose _ _) | (simp; exact TabW.bclose2 _), by repeat (first | exact Drawn0.refl _ | apply Drawn0.step)⟩
                      · rw [if_neg c12] at H
                        have c12b0 : (a0.toList == ([115, 101, 116] : List UInt8)) = false := beq_eq_false_iff_ne.mpr c12
                        have c12b1 : (a0.toList != ([115, 101, 116] : List UInt8)) = true := bne_iff_ne.mpr c12
                        obtain rfl := Option.some.inj H
                        go_wp2
                        go_ret
                        exact ⟨by first | rfl | (simp; done) | (simp [*]; done) | (simp; exact TabW.bclose _ _) | (simp; exact TabW.bclose2 _), by repeat (first | exact Drawn0.refl _ | apply Drawn0.step)⟩

/-! ### selkielaw10_WordsThings: function 7 -/
def selkielaw10_WordsThings.f (k : Nat) (a0 : Int) (a1 : ByteArray) : Option (Bool) := (selkielaw10_alive.f).bind fun t180 => (if t180 = true then (if (a1.size : Int) > 10000 then (some true) else ((words_Zero.f a0).bind fun t181 => ((selkieref10_Zero.f a0).bind fun t182 => (if t181.toList = t182.toList then ((words_For.f a0).bind fun t183 => ((selkieref10_For.f a0).bind fun t184 => (if t183.toList = t184.toList then ((words_Arg.f a0 a1).bind fun t185 => ((selkieref10_Arg.f a0 a1).bind fun t186 => (if t185.toList = t186.toList then ((words_Field.f a1).bind fun t187 => ((selkieref10_Field.f k a1).bind fun t188 => (some (t187.toList == t188.toList)))) else (some false)))) else (some false)))) else (some false))))) else (some false))
theorem selkielaw10_WordsThings.mono : ∀ a0 a1 k, LeO (selkielaw10_WordsThings.f k a0 a1) (selkielaw10_WordsThings.f (k + 1) a0 a1) := by
  intro a0 a1 k
  unfold selkielaw10_WordsThings.f
  repeat' first
      | (with_reducible exact selkieref10_Field.mono _ _)
      | (with_reducible exact LeO.refl _)
      | (with_reducible exact LeO.none _)
      | (with_reducible refine LeO.ite ?_ ?_)
      | (with_reducible refine LeO.bind ?_ (fun _ => ?_))
      | exact selkieref10_Field.mono _ _
      | exact LeO.none _
      | refine LeO.ite ?_ ?_
      | refine LeO.bind ?_ (fun _ => ?_)
set_option maxHeartbeats 8000000 in
set_option maxRecDepth 100000 in
theorem selkielaw10_WordsThings.calls (k : Nat) (a0 : Int) (a1 : ByteArray) (r : Bool) (w : World) (hT : Go.Proofs.YtpgpmldaggpciaaDoor.TabW.Tab w) (hr : r = true) (h : selkielaw10_WordsThings.f k a0 a1 = some r) :
    Calls Tryd.prog 7 #[.int .i64 a0, .string a1] w fun e w' => e = .returned (.bool r) ∧ Below w.heap.size w w' := by
  have HB := Aside0.mk (Below.refl w.heap.size w)
  have HR := Aside0.mk hr
  clear hr
  have HTT := Aside0.mk hT
  clear hT
  have H : ((selkielaw10_alive.f).bind fun t180 => (if t180 = true then (if (a1.size : Int) > 10000 then (some true) else ((words_Zero.f a0).bind fun t181 => ((selkieref10_Zero.f a0).bind fun t182 => (if t181.toList = t182.toList then ((words_For.f a0).bind fun t183 => ((selkieref10_For.f a0).bind fun t184 => (if t183.toList = t184.toList then ((words_Arg.f a0 a1).bind fun t185 => ((selkieref10_Arg.f a0 a1).bind fun t186 => (if t185.toList = t186.toList then ((words_Field.f a1).bind fun t187 => ((selkieref10_Field.f k a1).bind fun t188 => (some (t187.toList == t188.toList)))) else (some false)))) else (some false)))) else (some false))))) else (some false))) = some r := h
  clear h
  replace H := Option.bind_eq_some_iff.mp H
  obtain ⟨t180, A30, H⟩ := H
  replace H : (if t180 = true then (if (a1.size : Int) > 10000 then (some true) else ((words_Zero.f a0).bind fun t181 => ((selkieref10_Zero.f a0).bind fun t182 => (if t181.toList = t182.toList then ((words_For.f a0).bind fun t183 => ((selkieref10_For.f a0).bind fun t184 => (if t183.toList = t184.toList then ((words_Arg.f a0 a1).bind fun t185 => ((selkieref10_Arg.f a0 a1).bind fun t186 => (if t185.toList = t186.toList then ((words_Field.f a1).bind fun t187 => ((selkieref10_Field.f k a1).bind fun t188 => (some (t187.toList == t188.toList)))) else (some false)))) else (some false)))) else (some false))))) else (some false)) = some r := H
  have A3 := Aside0.mk A30
  clear A30
  by_cases c4 : t180 = true
  · subst c4
    have H1 : (if (a1.size : Int) > 10000 then (some true) else ((words_Zero.f a0).bind fun t181 => ((selkieref10_Zero.f a0).bind fun t182 => (if t181.toList = t182.toList then ((words_For.f a0).bind fun t183 => ((selkieref10_For.f a0).bind fun t184 => (if t183.toList = t184.toList then ((words_Arg.f a0 a1).bind fun t185 => ((selkieref10_Arg.f a0 a1).bind fun t186 => (if t185.toList = t186.toList then ((words_Field.f a1).bind fun t187 => ((selkieref10_Field.f k a1).bind fun t188 => (some (t187.toList == t188.toList)))) else (some false)))) else (some false)))) else (some false))))) = some r := by rw [if_pos rfl] at H; exact H
    clear H
    have H := H1
    clear H1
    by_cases c5 : (a1.size : Int) > 10000
    · rw [if_pos c5] at H
      have c5b0 : decide (10000 < (a1.size : Int)) = true := decide_eq_true c5
      have c5b1 : decide (10000 < a1.size) = true := decide_eq_true (by omega)
      clear c5
      obtain rfl := Option.some.inj H
      go_enter Tryd.func7, Tryd.ntmps7
      go_wp2_with (first | ((with_reducible refine gate_callee (f := 17) rfl ?_); refine goesL_ (some 5) rfl rfl Tryd.func17 (by kernel_rfl) rfl #[] rfl (by (try simp only [List.map_toArray, List.map_cons, List.map_nil]); first | done | rfl | (simp only [List.length_drop, List.length_take]; rfl)) ?_; (with_reducible refine (selkielaw10_alive.calls  true _ (HTT.out.on (by repeat (first | (with_reducible first | exact HB.out | apply below_alloc | apply pw_below_drewN | apply below_drew1) | exact HB.out))) A3.out).mono ?_); rintro e w6 ⟨rfl, hb⟩; refine ⟨_, rfl, ?_⟩; have n0_ := Aside0.mk (below_step (by repeat (first | (with_reducible first | exact HB.out | apply below_alloc | apply pw_below_drewN | apply below_drew1) | exact HB.out)) hb); clear HB; have HB := n0_; clear n0_; (try clear hb); (try clear hb2); (try clear hk); (try clear hi)))
      go_ret
      exact ⟨by first | rfl | (simp [errW_none, errW_some] <;> rfl) | (simp [*, errW_none, errW_some] <;> rfl), by repeat (first | (with_reducible first | exact HB.out | apply below_alloc | apply pw_below_drewN | apply below_drew1) | exact HB.out)⟩
    · rw [if_neg c5] at H
      have c5b0 : decide (10000 < (a1.size : Int)) = false := decide_eq_false c5
      have c5b1 : decide (10000 < a1.size) = false := decide_eq_false (by omega)
      clear c5
      replace H := Option.bind_eq_some_iff.mp H
      obtain ⟨t181, A70, H⟩ := H
      replace H : ((selkieref10_Zero.f a0).bind fun t182 => (if t181.toList = t182.toList then ((words_For.f a0).bind fun t183 => ((selkieref10_For.f a0).bind fun t184 => (if t183.toList = t184.toList then ((words_Arg.f a0 a1).bind fun t185 => ((selkieref10_Arg.f a0 a1).bind fun t186 => (if t185.toList = t186.toList then ((words_Field.f a1).bind fun t187 => ((selkieref10_Field.f k a1).bind fun t188 => (some (t187.toList == t188.toList)))) else (some false)))) else (some false)))) else (some false))) = some r := H
      have A7 := Aside0.mk A70
      clear A70
      replace H := Option.bind_eq_some_iff.mp H
      obtain ⟨t182, A80, H⟩ := H
      replace H : (if t181.toList = t182.toList then ((words_For.f a0).bind fun t183 => ((selkieref10_For.f a0).bind fun t184 => (if t183.toList = t184.toList then ((words_Arg.f a0 a1).bind fun t185 => ((selkieref10_Arg.f a0 a1).bind fun t186 => (if t185.toList = t186.toList then ((words_Field.f a1).bind fun t187 => ((selkieref10_Field.f k a1).bind fun t188 => (some (t187.toList == t188.toList)))) else (some false)))) else (some false)))) else (some false)) = some r := H
      have A8 := Aside0.mk A80
      clear A80
      by_cases c9 : t181.toList = t182.toList
      · rw [if_pos c9] at H
        have c9b0 : (t181.toList == t182.toList) = true := beq_iff_eq.mpr c9
        have c9b1 : (t181.toList != t182.toList) = false := bne_eq_false_iff_eq.mpr c9
        clear c9
        replace H := Option.bind_eq_some_iff.mp H
        obtain ⟨t183, A100, H⟩ := H
        replace H : ((selkieref10_For.f a0).bind fun t184 => (if t183.toList = t184.toList then ((words_Arg.f a0 a1).bind fun t185 => ((selkieref10_Arg.f a0 a1).bind fun t186 => (if t185.toList = t186.toList then ((words_Field.f a1).bind fun t187 => ((selkieref10_Field.f k a1).bind fun t188 => (some (t187.toList == t188.toList)))) else (some false)))) else (some false))) = some r := H
        have A10 := Aside0.mk A100
        clear A100
        replace H := Option.bind_eq_some_iff.mp H
        obtain ⟨t184, A110, H⟩ := H
        replace H : (if t183.toList = t184.toList then ((words_Arg.f a0 a1).bind fun t185 => ((selkieref10_Arg.f a0 a1).bind fun t186 => (if t185.toList = t186.toList then ((words_Field.f a1).bind fun t187 => ((selkieref10_Field.f k a1).bind fun t188 => (some (t187.toList == t188.toList)))) else (some false)))) else (some false)) = some r := H
        have A11 := Aside0.mk A110
        clear A110
        by_cases c12 : t183.toList = t184.toList
        · rw [if_pos c12] at H
          have c12b0 : (t183.toList == t184.toList) = true := beq_iff_eq.mpr c12
          have c12b1 : (t183.toList != t184.toList) = false := bne_eq_false_iff_eq.mpr c12
          clear c12
          replace H := Option.bind_eq_some_iff.mp H
          obtain ⟨t185, A130, H⟩ := H
          replace H : ((selkieref10_Arg.f a0 a1).bind fun t186 => (if t185.toList = t186.toList then ((words_Field.f a1).bind fun t187 => ((selkieref10_Field.f k a1).bind fun t188 => (some (t187.toList == t188.toList)))) else (some false))) = some r := H
          have A13 := Aside0.mk A130
          clear A130
          replace H := Option.bind_eq_some_iff.mp H
          obtain ⟨t186, A140, H⟩ := H
          replace H : (if t185.toList = t186.toList then ((words_Field.f a1).bind fun t187 => ((selkieref10_Field.f k a1).bind fun t188 => (some (t187.toList == t188.toList)))) else (some false)) = some r := H
          have A14 := Aside0.mk A140
          clear A140
          by_cases c15 : t185.toList = t186.toList
          · rw [if_pos c15] at H
            have c15b0 : (t185.toList == t186.toList) = true := beq_iff_eq.mpr c15
            have c15b1 : (t185.toList != t186.toList) = false := bne_eq_false_iff_eq.mpr c15
            clear c15
            replace H := Option.bind_eq_some_iff.mp H
            obtain ⟨t187, A160, H⟩ := H
            replace H : ((selkieref10_Field.f k a1).bind fun t188 => (some (t187.toList == t188.toList))) = some r := H
            have A16 := Aside0.mk A160
            clear A160
            replace H := Option.bind_eq_some_iff.mp H
            obtain ⟨t188, A170, H⟩ := H
            replace H : (some (t187.toList == t188.toList)) = some r := H
            have A17 := Aside0.mk A170
            clear A170
            obtain rfl := Option.some.inj H
            go_enter Tryd.func7, Tryd.ntmps7
            go_wp2_with (first | ((with_reducible refine gate_callee (f := 17) rfl ?_); refine goesL_ (some 5) rfl rfl Tryd.func17 (by kernel_rfl) rfl #[] rfl (by (try simp only [List.map_toArray, List.map_cons, List.map_nil]); first | done | rfl | (simp only [List.length_drop, List.length_take]; rfl)) ?_; (with_reducible refine (selkielaw10_alive.calls  true _ (HTT.out.on (by repeat (first | (with_reducible first | exact HB.out | apply below_alloc | apply pw_below_drewN | apply below_drew1) | exact HB.out))) A3.out).mono ?_); rintro e w18 ⟨rfl, hb⟩; refine ⟨_, rfl, ?_⟩; have n0_ := Aside0.mk (below_step (by repeat (first | (with_reducible first | exact HB.out | apply below_alloc | apply pw_below_drewN | apply below_drew1) | exact HB.out)) hb); clear HB; have HB := n0_; clear n0_; (try clear hb); (try clear hb2); (try clear hk); (try clear hi)) | ((with_reducible refine gate_callee (f := 35) rfl ?_); refine goesL_ (some 11) rfl rfl Tryd.func35 (by kernel_rfl) rfl #[.int .i64 a0] rfl (by (try simp only [List.map_toArray, List.map_cons, List.map_nil]); first | done | rfl | (simp only [List.length_drop, List.length_take]; rfl)) ?_; (with_reducible refine (words_Zero.calls a0 t181 _ A7.out).mono ?_); rintro e w' ⟨rfl, ⟨nd, rfl⟩⟩; refine ⟨_, rfl, ?_⟩) | ((with_reducible refine gate_callee (f := 36) rfl ?_); refine goesL_ (some 13) rfl rfl Tryd.func36 (by kernel_rfl) rfl #[.int .i64 a0] rfl (by (try simp only [List.map_toArray, List.map_cons, List.map_nil]); first | done | rfl | (simp only [List.length_drop, List.length_take]; rfl)) ?_; (with_reducible refine (selkieref10_Zero.calls a0 t182 _ A8.out).mono ?_); rintro e w' ⟨rfl, ⟨nd, rfl⟩⟩; refine ⟨_, rfl, ?_⟩) | (go_at_call 37; (with_reducible refine (words_For.calls a0 t183 _ A10.out).mono ?_); rintro e w' ⟨rfl, ⟨nd, rfl⟩⟩) | (go_at_call 38; (with_reducible refine (selkieref10_For.calls a0 t184 _ A11.out).mono ?_); rintro e w' ⟨rfl, ⟨nd, rfl⟩⟩) | (go_at_call 39; (with_reducible refine (words_Arg.calls a0 a1 t185 _ (HTT.out.on (by repeat (first | (with_reducible first | exact HB.out | apply below_alloc | apply pw_below_drewN | apply below_drew1) | exact HB.out))) A13.out).mono ?_); rintro e w19 ⟨rfl, hb⟩; have n0_ := Aside0.mk (below_step (by repeat (first | (with_reducible first | exact HB.out | apply below_alloc | apply pw_below_drewN | apply below_drew1) | exact HB.out)) hb); clear HB; have HB := n0_; clear n0_; (try clear hb); (try clear hb2); (try clear hk); (try clear hi)) | (go_at_call 40; (with_reducible refine (selkieref10_Arg.calls a0 a1 t186 _ (HTT.out.on (by repeat (first | (with_reducible first | exact HB.out | apply below_alloc | apply pw_below_drewN | apply below_drew1) | exact HB.out))) A14.out).mono ?_); rintro e w20 ⟨rfl, hb⟩; have n0_ := Aside0.mk (below_step (by repeat (first | (with_reducible first | exact HB.out | apply below_alloc | apply pw_below_drewN | apply below_drew1) | exact HB.out)) hb); clear HB; have HB := n0_; clear n0_; (try clear hb); (try clear hb2); (try clear hk); (try clear hi)) | (go_at_call 41; (with_reducible refine (words_Field.calls a1 t187 _ A16.out).mono ?_); rintro e w' ⟨rfl, ⟨nd, rfl⟩⟩) | (go_at_call 42; (with_reducible refine (selkieref10_Field.calls k a1 t188 _ A17.out).mono ?_); rintro e w' ⟨rfl, ⟨nd, rfl⟩⟩))
            go_ret
            exact ⟨by first | rfl | (simp [errW_none, errW_some] <;> rfl) | (simp [*, errW_none, errW_some] <;> rfl), by repeat (first | (with_reducible first | exact HB.out | apply below_alloc | apply pw_below_drewN | apply below_drew1) | exact HB.out)⟩
          · rw [if_neg c15] at H
            have c15b0 : (t185.toList == t186.toList) = false := beq_eq_false_iff_ne.mpr c15
            have c15b1 : (t185.toList != t186.toList) = true := bne_iff_ne.mpr c15
            exact absurd (Option.some.inj H) (by rw [HR.out]; decide)
        · rw [if_neg c12] at H
          have c12b0 : (t183.toList == t184.toList) = false := beq_eq_false_iff_ne.mpr c12
          have c12b1 : (t183.toList != t184.toList) = true := bne_iff_ne.mpr c12
          exact absurd (Option.some.inj H) (by rw [HR.out]; decide)
      · rw [if_neg c9] at H
        have c9b0 : (t181.toList == t182.toList) = false := beq_eq_false_iff_ne.mpr c9
        have c9b1 : (t181.toList != t182.toList) = true := bne_iff_ne.mpr c9
        exact absurd (Option.some.inj H) (by rw [HR.out]; decide)
  · replace c4 := Bool.eq_false_iff.mpr c4
    subst c4
    have H1 : (some false) = some r := by rw [if_neg (show ¬ (false = true) by decide)] at H; exact H
    clear H
    have H := H1
    clear H1
    exact absurd (Option.some.inj H) (by rw [HR.out]; decide)

end Go.Proofs.YtpgpmldaggpciaaDoor.PWo
