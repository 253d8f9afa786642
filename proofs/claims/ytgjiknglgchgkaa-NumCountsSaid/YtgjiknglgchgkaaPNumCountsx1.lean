-- PRINTED BY print.sh 35421559b90ae4d0a3588c463048766b98c2df88dd9212a6774a882060cdf62d: not written by this session
import Derived.Test.YtgjiknglgchgkaaPNumCountsx0
namespace Go.Proofs.Ytgjiknglgchgkaa.PNumCounts
open Go.RowKit Go.Proofs.YtgjiknglgchgkaaW.PrintWords Go.Proofs.YtgjiknglgchgkaaW.PrintLast Go.Proofs.YtgjiknglgchgkaaW.PrintMore
attribute [local go_sem] max2_int min2_int max_two min_two max_three min_three max_four min_four   -- for this text's walks alone
set_option linter.unusedVariables false
set_option linter.unusedSimpArgs false

/-! ### num_divide: function 19 -/
def num_divide.f (a0 : Int) (a1 : Int) : Option (Int × Int) := if a1 = 0 then (none) else (if (Int.tmod a0 a1) = 0 then (some (wrap64 (Int.tdiv a0 a1), Int.tmod a0 a1)) else (if (Go.bits .xor .i64 (Int.tmod a0 a1) a1) < 0 then (some (wrap64 ((wrap64 (Int.tdiv a0 a1)) - 1), wrap64 ((Int.tmod a0 a1) + a1))) else (some (wrap64 (Int.tdiv a0 a1), Int.tmod a0 a1))))
set_option maxHeartbeats 8000000 in
set_option maxRecDepth 100000 in
theorem num_divide.calls (a0 : Int) (a1 : Int) (r1 : Int) (r2 : Int) (w : World) (h : num_divide.f a0 a1 = some (r1, r2)) :
    Calls Try.prog 19 #[.int .i64 a0, .int .i64 a1] w fun e w' => e = .returned (.tuple #[.int .i64 r1, .int .i64 r2]) ∧ Drawn0 w w' := by
  have H : (if a1 = 0 then (none) else (if (Int.tmod a0 a1) = 0 then (some (wrap64 (Int.tdiv a0 a1), Int.tmod a0 a1)) else (if (Go.bits .xor .i64 (Int.tmod a0 a1) a1) < 0 then (some (wrap64 ((wrap64 (Int.tdiv a0 a1)) - 1), wrap64 ((Int.tmod a0 a1) + a1))) else (some (wrap64 (Int.tdiv a0 a1), Int.tmod a0 a1))))) = some (r1, r2) := h
  clear h
  by_cases c3 : a1 = 0
  · rw [if_pos c3] at H
    exact absurd H (by simp)
  · rw [if_neg c3] at H
    have c3b0 : (a1 == 0) = false := beq_eq_false_iff_ne.mpr c3
    have c3b1 : (a1 != 0) = true := bne_iff_ne.mpr c3
    by_cases c4 : (Int.tmod a0 a1) = 0
    · rw [if_pos c4] at H
      have c4b0 : ((Int.tmod a0 a1) == 0) = true := beq_iff_eq.mpr c4
      have c4b1 : ((Int.tmod a0 a1) != 0) = false := bne_eq_false_iff_eq.mpr c4
      clear c4
      simp only [Option.some.injEq, Prod.mk.injEq] at H
      obtain ⟨rfl, rfl⟩ := H
      go_enter Try.func19, Try.ntmps19
      go_wp2
      repeat (go_quiet (fail); try go_wp2)
      go_ret2
      exact ⟨by first | rfl | (simp; done) | (simp [*]; done), by repeat (first | exact Drawn0.refl _ | apply Drawn0.step)⟩
    · rw [if_neg c4] at H
      have c4b0 : ((Int.tmod a0 a1) == 0) = false := beq_eq_false_iff_ne.mpr c4
      have c4b1 : ((Int.tmod a0 a1) != 0) = true := bne_iff_ne.mpr c4
      by_cases c5 : (Go.bits .xor .i64 (Int.tmod a0 a1) a1) < 0
      · rw [if_pos c5] at H
        have c5b0 : decide ((Go.bits .xor .i64 (Int.tmod a0 a1) a1) < 0) = true := decide_eq_true c5
        clear c5
        simp only [Option.some.injEq, Prod.mk.injEq] at H
        obtain ⟨rfl, rfl⟩ := H
        go_enter Try.func19, Try.ntmps19
        go_wp2
        repeat (go_quiet (fail); try go_wp2)
        go_ret2
        exact ⟨by first | rfl | (simp; done) | (simp [*]; done), by repeat (first | exact Drawn0.refl _ | apply Drawn0.step)⟩
      · rw [if_neg c5] at H
        have c5b0 : decide ((Go.bits .xor .i64 (Int.tmod a0 a1) a1) < 0) = false := decide_eq_false c5
        clear c5
        simp only [Option.some.injEq, Prod.mk.injEq] at H
        obtain ⟨rfl, rfl⟩ := H
        go_enter Try.func19, Try.ntmps19
        go_wp2
        repeat (go_quiet (fail); try go_wp2)
        go_ret2
        exact ⟨by first | rfl | (simp; done) | (simp [*]; done), by repeat (first | exact Drawn0.refl _ | apply Drawn0.step)⟩

/-! ### num_shift: function 20 -/
def num_shift.j0 : Nat → Int → Int → Bool → Option (Int)
  | 0, _, _, _ => none
  | k + 1, x0, x1, x5 => if x5 = true then (some 0) else (if x1 < 0 then (if 0 ≤ (wrap64 (-x1)) then (some (shr .u64 x0 (wrap64 (-x1)))) else (none)) else (if 0 ≤ x1 then (some (shl .u64 x0 x1)) else (none)))
def num_shift.f (k : Nat) (a0 : Int) (a1 : Int) : Option (Int) := if a1 ≥ 64 then (num_shift.j0 k a0 a1 true) else (num_shift.j0 k a0 a1 (decide (a1 ≤ (-64))))
theorem num_shift.mono_l : ∀ k, (∀ y0 y1 y2, LeO (num_shift.j0 k y0 y1 y2) (num_shift.j0 (k + 1) y0 y1 y2))
  | 0 => fun _ _ _ r h => by simp [num_shift.j0] at h
  | k + 1 => by
    have ih0 := num_shift.mono_l k
    · intro y0 y1 y2
      unfold num_shift.j0
      repeat' first
      | (with_reducible exact ih0 _ _ _)
      | (with_reducible exact LeO.refl _)
      | (with_reducible exact LeO.none _)
      | (with_reducible refine LeO.ite ?_ ?_)
      | (with_reducible refine LeO.bind ?_ (fun _ => ?_))
      | exact ih0 _ _ _
      | exact LeO.none _
      | refine LeO.ite ?_ ?_
      | refine LeO.bind ?_ (fun _ => ?_)
theorem num_shift.mono : ∀ a0 a1 k, LeO (num_shift.f k a0 a1) (num_shift.f (k + 1) a0 a1) := by
  intro a0 a1 k
  have ih0 := num_shift.mono_l k
  unfold num_shift.f
  repeat' first
      | (with_reducible exact ih0 _ _ _)
      | (with_reducible exact LeO.refl _)
      | (with_reducible exact LeO.none _)
      | (with_reducible refine LeO.ite ?_ ?_)
      | (with_reducible refine LeO.bind ?_ (fun _ => ?_))
      | exact ih0 _ _ _
      | exact LeO.none _
      | refine LeO.ite ?_ ?_
      | refine LeO.bind ?_ (fun _ => ?_)
set_option maxHeartbeats 8000000 in
set_option maxRecDepth 100000 in
theorem num_shift.calls (k : Nat) (a0 : Int) (a1 : Int) (r : Int) (w : World) (h : num_shift.f k a0 a1 = some r) :
    Calls Try.prog 20 #[.int .u64 a0, .int .i64 a1] w fun e w' => e = .returned (.int .u64 r) ∧ Drawn0 w w' := by
  have H : (if a1 ≥ 64 then (num_shift.j0 k a0 a1 true) else (num_shift.j0 k a0 a1 (decide (a1 ≤ (-64))))) = some r := h
  clear h
  have HC3 := Aside0.mk H
  clear H
  go_enter Try.func20, Try.ntmps20
  go_upto_region 1 with (fail)
  go_cut [5] (fun v5 wc => ∃ (kq : Nat) (x5_2 : Bool), v5 = .bool x5_2 ∧ Aside0 (num_shift.j0 kq a0 a1 x5_2 = some r) ∧ Aside0 (kq ≤ k) ∧ Drawn0 w wc)
  case first =>
    have H := HC3.out
    clear HC3
    by_cases c4 : a1 ≥ 64
    · rw [if_pos c4] at H
      have c4b0 : decide (64 ≤ a1) = true := decide_eq_true c4
      clear c4
      (first | rw [c4b0] | (simp only [i64_w, i32_w]; rw [c4b0]) | skip)
      have H' := Aside0.mk H
      clear H
      go_wp2
      go_meet
      case rel => exact ⟨_, (true), (by first | rfl | (simp; done) | (simp [*]; done)), H', ⟨by first | omega | exact Nat.le_refl _⟩, by repeat (first | exact Drawn0.refl _ | apply Drawn0.step)⟩
    · rw [if_neg c4] at H
      have c4b0 : decide (64 ≤ a1) = false := decide_eq_false c4
      clear c4
      (first | rw [c4b0] | (simp only [i64_w, i32_w]; rw [c4b0]) | skip)
      have H' := Aside0.mk H
      clear H
      go_wp2
      go_meet
      case rel => exact ⟨_, (decide (a1 ≤ (-64))), (by first | rfl | (simp; done) | (simp [*]; done)), H', ⟨by first | omega | exact Nat.le_refl _⟩, by repeat (first | exact Drawn0.refl _ | apply Drawn0.step)⟩
  case rest =>
    clear HC3
    try clear c2
    try clear p2
    try clear c4
    try clear c4b0
    obtain ⟨kq, x5_2, rfl, HA, HJ2, ⟨mc2, rfl⟩⟩ := hcut
    cases kq with
    | zero => exact absurd HA.out (by simp [num_shift.j0])
    | succ kj2 =>
      have H := HA.out
      clear HA
      simp only [num_shift.j0] at H
      by_cases c5 : x5_2 = true
      · subst c5
        have H1 : (some 0) = some r := by rw [if_pos rfl] at H; exact H
        clear H
        have H := H1
        clear H1
        obtain rfl := Option.some.inj H
        go_wp2
        go_ret
        exact ⟨by first | rfl | (simp; done) | (simp [*]; done), by repeat (first | exact Drawn0.refl _ | apply Drawn0.step)⟩
      · replace c5 := Bool.eq_false_iff.mpr c5
        subst c5
        have H1 : (if a1 < 0 then (if 0 ≤ (wrap64 (-a1)) then (some (shr .u64 a0 (wrap64 (-a1)))) else (none)) else (if 0 ≤ a1 then (some (shl .u64 a0 a1)) else (none))) = some r := by rw [if_neg (show ¬ (false = true) by decide)] at H; exact H
        clear H
        have H := H1
        clear H1
        by_cases c6 : a1 < 0
        · rw [if_pos c6] at H
          have c6b0 : decide (a1 < 0) = true := decide_eq_true c6
          clear c6
          obtain ⟨ji7, hji7⟩ : ∃ j_ : Int, (wrap64 (-a1)) = j_ := ⟨_, rfl⟩
          replace H : (if 0 ≤ (ji7) then (some (shr .u64 a0 (ji7))) else (none)) = some r := by first | (rw [hji7] at H; exact H) | (simp only [hji7] at H ⊢; exact H)
          have hji7w : (IntKind.i64.wrap (-a1)) = ji7 := (i64_w _).trans hji7
          by_cases c8 : 0 ≤ (ji7)
          · rw [if_pos c8] at H
            have c8b0 := eq_true c8
            have c8b1 : decide (0 ≤ (ji7)) = true := decide_eq_true c8
            clear c8
            obtain ⟨ji9, hji9⟩ : ∃ j_ : Int, (shr .u64 a0 (ji7)) = j_ := ⟨_, rfl⟩
            replace H : (some ji9) = some r := by first | (rw [hji9] at H; exact H) | (simp only [hji9] at H ⊢; exact H)
            have hji9_ : (a0 / 2 ^ min (ji7).toNat 64) = ji9 := hji9
            have hji9z : (ji7) ≤ 64 → (a0 / 2 ^ (ji7).toNat) = ji9 := shr_small hji9
            obtain rfl := Option.some.inj H
            go_wp2
            go_ret
            exact ⟨by first | rfl | (simp; done) | (simp only [← hji7, ← hji9] <;> (first | rfl | simp)) | (simp [*]; done), by repeat (first | exact Drawn0.refl _ | apply Drawn0.step)⟩
          · rw [if_neg c8] at H
            exact absurd H (by simp)
        · rw [if_neg c6] at H
          have c6b0 : decide (a1 < 0) = false := decide_eq_false c6
          clear c6
          by_cases c10 : 0 ≤ a1
          · rw [if_pos c10] at H
            have c10b0 := eq_true c10
            have c10b1 : decide (0 ≤ a1) = true := decide_eq_true c10
            clear c10
            obtain ⟨ji11, hji11⟩ : ∃ j_ : Int, (shl .u64 a0 a1) = j_ := ⟨_, rfl⟩
            replace H : (some ji11) = some r := by first | (rw [hji11] at H; exact H) | (simp only [hji11] at H ⊢; exact H)
            have hji11_ : (IntKind.u64.wrap (a0 * 2 ^ min a1.toNat 64)) = ji11 := hji11
            have hji11z : a1 ≤ 64 → (IntKind.u64.wrap (a0 * 2 ^ a1.toNat)) = ji11 := shl_small hji11
            obtain rfl := Option.some.inj H
            go_wp2
            go_ret
            exact ⟨by first | rfl | (simp; done) | (simp only [← hji11] <;> (first | rfl | simp)) | (simp [*]; done), by repeat (first | exact Drawn0.refl _ | apply Drawn0.step)⟩
          · rw [if_neg c10] at H
            exact absurd H (by simp)

/-! ### num_Do: function 10 -/
def num_Do.j0 : Nat → Int → Int → Int → Int → Bool → Option (Int × Int)
  | 0, _, _, _, _, _ => none
  | k + 1, x0, x1, x2, x10, x17 => if x17 = true then (if x2 = 0 then (some (0, 2)) else ((num_divide.f x1 x2).bind fun bt103 => (if x0 = 5 then (some (bt103.2, 0)) else (some (bt103.1, 0))))) else (if x10 = 6 then (some (Go.bits .and .i64 x1 x2, 0)) else (if x10 = 7 then (some (Go.bits .or .i64 x1 x2, 0)) else (if x10 = 8 then (some (Go.bits .xor .i64 x1 x2, 0)) else (if x10 = 10 then (if x2 = (-9223372036854775808) then (some (0, 0)) else ((num_shift.f k (IntKind.u64.wrap (x1)) (wrap64 (-x2))).bind fun t101 => (some (wrap64 (t101), 0)))) else (if x10 = 9 then ((num_shift.f k (IntKind.u64.wrap (x1)) x2).bind fun t102 => (some (wrap64 (t102), 0))) else (some (0, 1)))))))
def num_Do.f (k : Nat) (a0 : Int) (a1 : Int) (a2 : Int) : Option (Int × Int) := if a0 = 1 then (some (wrap64 (a1 + a2), 0)) else (if a0 = 2 then (some (wrap64 (a1 - a2), 0)) else (if a0 = 3 then (some (wrap64 (a1 * a2), 0)) else (if a0 = 4 then (num_Do.j0 k a0 a1 a2 a0 (a0 == 4)) else (num_Do.j0 k a0 a1 a2 a0 (a0 == 5)))))
theorem num_Do.mono_l : ∀ k, (∀ y0 y1 y2 y3 y4, LeO (num_Do.j0 k y0 y1 y2 y3 y4) (num_Do.j0 (k + 1) y0 y1 y2 y3 y4))
  | 0 => fun _ _ _ _ _ r h => by simp [num_Do.j0] at h
  | k + 1 => by
    have ih0 := num_Do.mono_l k
    · intro y0 y1 y2 y3 y4
      unfold num_Do.j0
      repeat' first
      | (with_reducible exact ih0 _ _ _ _ _)
      | (with_reducible exact num_shift.mono _ _ _)
      | (with_reducible exact LeO.refl _)
      | (with_reducible exact LeO.none _)
      | (with_reducible refine LeO.ite ?_ ?_)
      | (with_reducible refine LeO.bind ?_ (fun _ => ?_))
      | exact ih0 _ _ _ _ _
      | exact num_shift.mono _ _ _
      | exact LeO.none _
      | refine LeO.ite ?_ ?_
      | refine LeO.bind ?_ (fun _ => ?_)
theorem num_Do.mono : ∀ a0 a1 a2 k, LeO (num_Do.f k a0 a1 a2) (num_Do.f (k + 1) a0 a1 a2) := by
  intro a0 a1 a2 k
  have ih0 := num_Do.mono_l k
  unfold num_Do.f
  repeat' first
      | (with_reducible exact ih0 _ _ _ _ _)
      | (with_reducible exact num_shift.mono _ _ _)
      | (with_reducible exact LeO.refl _)
      | (with_reducible exact LeO.none _)
      | (with_reducible refine LeO.ite ?_ ?_)
      | (with_reducible refine LeO.bind ?_ (fun _ => ?_))
      | exact ih0 _ _ _ _ _
      | exact num_shift.mono _ _ _
      | exact LeO.none _
      | refine LeO.ite ?_ ?_
      | refine LeO.bind ?_ (fun _ => ?_)
set_option maxHeartbeats 8000000 in
set_option maxRecDepth 100000 in
theorem num_Do.calls (k : Nat) (a0 : Int) (a1 : Int) (a2 : Int) (r1 : Int) (r2 : Int) (w : World) (h : num_Do.f k a0 a1 a2 = some (r1, r2)) :
    Calls Try.prog 10 #[.int .i64 a0, .int .i64 a1, .int .i64 a2] w fun e w' => e = .returned (.tuple #[.int .i64 r1, .int .i64 r2]) ∧ Drawn0 w w' := by
  have H : (if a0 = 1 then (some (wrap64 (a1 + a2), 0)) else (if a0 = 2 then (some (wrap64 (a1 - a2), 0)) else (if a0 = 3 then (some (wrap64 (a1 * a2), 0)) else (if a0 = 4 then (num_Do.j0 k a0 a1 a2 a0 (a0 == 4)) else (num_Do.j0 k a0 a1 a2 a0 (a0 == 5)))))) = some (r1, r2) := h
  clear h
  by_cases c4 : a0 = 1
  · rw [if_pos c4] at H
    have c4b0 : (a0 == 1) = true := beq_iff_eq.mpr c4
    have c4b1 : (a0 != 1) = false := bne_eq_false_iff_eq.mpr c4
    clear c4
    simp only [Option.some.injEq, Prod.mk.injEq] at H
    obtain ⟨rfl, rfl⟩ := H
    go_enter Try.func10, Try.ntmps10
    go_wp2
    go_ret2
    exact ⟨by first | rfl | (simp; done) | (simp [*]; done), by repeat (first | exact Drawn0.refl _ | apply Drawn0.step)⟩
  · rw [if_neg c4] at H
    have c4b0 : (a0 == 1) = false := beq_eq_false_iff_ne.mpr c4
    have c4b1 : (a0 != 1) = true := bne_iff_ne.mpr c4
    by_cases c5 : a0 = 2
    · rw [if_pos c5] at H
      have c5b0 : (a0 == 2) = true := beq_iff_eq.mpr c5
      have c5b1 : (a0 != 2) = false := bne_eq_false_iff_eq.mpr c5
      clear c5
      simp only [Option.some.injEq, Prod.mk.injEq] at H
      obtain ⟨rfl, rfl⟩ := H
      go_enter Try.func10, Try.ntmps10
      go_wp2
      go_ret2
      exact ⟨by first | rfl | (simp; done) | (simp [*]; done), by repeat (first | exact Drawn0.refl _ | apply Drawn0.step)⟩
    · rw [if_neg c5] at H
      have c5b0 : (a0 == 2) = false := beq_eq_false_iff_ne.mpr c5
      have c5b1 : (a0 != 2) = true := bne_iff_ne.mpr c5
      by_cases c6 : a0 = 3
      · rw [if_pos c6] at H
        have c6b0 : (a0 == 3) = true := beq_iff_eq.mpr c6
        have c6b1 : (a0 != 3) = false := bne_eq_false_iff_eq.mpr c6
        clear c6
        simp only [Option.some.injEq, Prod.mk.injEq] at H
        obtain ⟨rfl, rfl⟩ := H
        go_enter Try.func10, Try.ntmps10
        go_wp2
        go_ret2
        exact ⟨by first | rfl | (simp; done) | (simp [*]; done), by repeat (first | exact Drawn0.refl _ | apply Drawn0.step)⟩
      · rw [if_neg c6] at H
        have c6b0 : (a0 == 3) = false := beq_eq_false_iff_ne.mpr c6
        have c6b1 : (a0 != 3) = true := bne_iff_ne.mpr c6
        have HC7 := Aside0.mk H
        clear H
        go_enter Try.func10, Try.ntmps10
        go_upto_if 17 with (fail)
        go_cut [17] (fun v17 wc => ∃ (kq : Nat) (x17_6 : Bool), v17 = .bool x17_6 ∧ Aside0 (num_Do.j0 kq a0 a1 a2 a0 x17_6 = some (r1, r2)) ∧ Aside0 (kq ≤ k) ∧ Drawn0 w wc)
        case first =>
          have H := HC7.out
          clear HC7
          by_cases c8 : a0 = 4
          · rw [if_pos c8] at H
            have c8b0 : (a0 == 4) = true := beq_iff_eq.mpr c8
            have c8b1 : (a0 != 4) = false := bne_eq_false_iff_eq.mpr c8
            clear c8
            (first | rw [c8b0] | (simp only [i64_w, i32_w]; rw [c8b0]) | skip)
            have H' := Aside0.mk H
            clear H
            go_wp2
            go_meet
            case rel => exact ⟨_, ((a0 == 4)), (by first | rfl | (simp; done) | (simp [*]; done)), H', ⟨by first | omega | exact Nat.le_refl _⟩, by repeat (first | exact Drawn0.refl _ | apply Drawn0.step)⟩
          · rw [if_neg c8] at H
            have c8b0 : (a0 == 4) = false := beq_eq_false_iff_ne.mpr c8
            have c8b1 : (a0 != 4) = true := bne_iff_ne.mpr c8
            (first | rw [c8b0] | (simp only [i64_w, i32_w]; rw [c8b0]) | skip)
            have H' := Aside0.mk H
            clear H
            go_wp2
            go_meet
            case rel => exact ⟨_, ((a0 == 5)), (by first | rfl | (simp; done) | (simp [*]; done)), H', ⟨by first | omega | exact Nat.le_refl _⟩, by repeat (first | exact Drawn0.refl _ | apply Drawn0.step)⟩
        case rest =>
          clear HC7
          try clear c1
          try clear p2
          try clear c4
          try clear c4b0
          try clear c4b1
          try clear c5
          try clear c5b0
          try clear c5b1
          try clear c6
          try clear c6b0
          try clear c6b1
          try clear p6
          try clear c8
          try clear c8b0
          try clear c8b1
          obtain ⟨kq, x17_6, rfl, HA, HJ6, ⟨mc6, rfl⟩⟩ := hcut
          cases kq with
          | zero => exact absurd HA.out (by simp [num_Do.j0])
          | succ kj6 =>
            have H := HA.out
            clear HA
            simp only [num_Do.j0] at H
            by_cases c9 : x17_6 = true
            · subst c9
              have H1 : (if a2 = 0 then (some (0, 2)) else ((num_divide.f a1 a2).bind fun bt103 => (if a0 = 5 then (some (bt103.2, 0)) else (some (bt103.1, 0))))) = some (r1, r2) := by rw [if_pos rfl] at H; exact H
              clear H
              have H := H1
              clear H1
              by_cases c10 : a2 = 0
              · rw [if_pos c10] at H
                have c10b0 : (a2 == 0) = true := beq_iff_eq.mpr c10
                have c10b1 : (a2 != 0) = false := bne_eq_false_iff_eq.mpr c10
                clear c10
                simp only [Option.some.injEq, Prod.mk.injEq] at H
                obtain ⟨rfl, rfl⟩ := H
                go_wp2
                go_ret2
                exact ⟨by first | rfl | (simp; done) | (simp [*]; done), by repeat (first | exact Drawn0.refl _ | apply Drawn0.step)⟩
              · rw [if_neg c10] at H
                have c10b0 : (a2 == 0) = false := beq_eq_false_iff_ne.mpr c10
                have c10b1 : (a2 != 0) = true := bne_iff_ne.mpr c10
                replace H := Option.bind_eq_some_iff.mp H
                obtain ⟨⟨t103, t104⟩, A110, H⟩ := H
                replace H : (if a0 = 5 then (some (t104, 0)) else (some (t103, 0))) = some (r1, r2) := H
                have A11 := Aside0.mk A110
                clear A110
                by_cases c12 : a0 = 5
                · rw [if_pos c12] at H
                  have c12b0 : (a0 == 5) = true := beq_iff_eq.mpr c12
                  have c12b1 : (a0 != 5) = false := bne_eq_false_iff_eq.mpr c12
                  clear c12
                  simp only [Option.some.injEq, Prod.mk.injEq] at H
                  obtain ⟨rfl, rfl⟩ := H
                  go_wp2_with (first | ((with_reducible refine gate_callee (f := 19) rfl ?_); refine goesL_ (some 44) rfl rfl Try.func19 (by kernel_rfl) rfl #[.int .i64 a1, .int .i64 a2] rfl (by (try simp only [List.map_toArray, List.map_cons, List.map_nil]); first | done | rfl | (simp only [List.length_drop, List.length_take]; rfl)) ?_; (with_reducible refine (num_divide.calls a1 a2 t103 t104 _ A11.out).mono ?_); rintro e w' ⟨rfl, ⟨nd, rfl⟩⟩; refine ⟨_, rfl, ?_⟩))
                  go_ret2
                  exact ⟨by first | rfl | (simp; done) | (simp [*]; done), by repeat (first | exact Drawn0.refl _ | apply Drawn0.step)⟩
                · rw [if_neg c12] at H
                  have c12b0 : (a0 == 5) = false := beq_eq_false_iff_ne.mpr c12
                  have c12b1 : (a0 != 5) = true := bne_iff_ne.mpr c12
                  simp only [Option.some.injEq, Prod.mk.injEq] at H
                  obtain ⟨rfl, rfl⟩ := H
                  go_wp2_with (first | ((with_reducible refine gate_callee (f := 19) rfl ?_); refine goesL_ (some 44) rfl rfl Try.func19 (by kernel_rfl) rfl #[.int .i64 a1, .int .i64 a2] rfl (by (try simp only [List.map_toArray, List.map_cons, List.map_nil]); first | done | rfl | (simp only [List.length_drop, List.length_take]; rfl)) ?_; (with_reducible refine (num_divide.calls a1 a2 t103 t104 _ A11.out).mono ?_); rintro e w' ⟨rfl, ⟨nd, rfl⟩⟩; refine ⟨_, rfl, ?_⟩))
                  go_ret2
                  exact ⟨by first | rfl | (simp; done) | (simp [*]; done), by repeat (first | exact Drawn0.refl _ | apply Drawn0.step)⟩
            · replace c9 := Bool.eq_false_iff.mpr c9
              subst c9
              have H1 : (if a0 = 6 then (some (Go.bits .and .i64 a1 a2, 0)) else (if a0 = 7 then (some (Go.bits .or .i64 a1 a2, 0)) else (if a0 = 8 then (some (Go.bits .xor .i64 a1 a2, 0)) else (if a0 = 10 then (if a2 = (-9223372036854775808) then (some (0, 0)) else ((num_shift.f kj6 (IntKind.u64.wrap (a1)) (wrap64 (-a2))).bind fun t101 => (some (wrap64 (t101), 0)))) else (if a0 = 9 then ((num_shift.f kj6 (IntKind.u64.wrap (a1)) a2).bind fun t102 => (some (wrap64 (t102), 0))) else (some (0, 1))))))) = some (r1, r2) := by rw [if_neg (show ¬ (false = true) by decide)] at H; exact H
              clear H
              have H := H1
              clear H1
              by_cases c13 : a0 = 6
              · rw [if_pos c13] at H
                have c13b0 : (a0 == 6) = true := beq_iff_eq.mpr c13
                have c13b1 : (a0 != 6) = false := bne_eq_false_iff_eq.mpr c13
                clear c13
                simp only [Option.some.injEq, Prod.mk.injEq] at H
                obtain ⟨rfl, rfl⟩ := H
                go_wp2
                go_ret2
                exact ⟨by first | rfl | (simp; done) | (simp [*]; done), by repeat (first | exact Drawn0.refl _ | apply Drawn0.step)⟩
              · rw [if_neg c13] at H
                have c13b0 : (a0 == 6) = false := beq_eq_false_iff_ne.mpr c13
                have c13b1 : (a0 != 6) = true := bne_iff_ne.mpr c13
                by_cases c14 : a0 = 7
                · rw [if_pos c14] at H
                  have c14b0 : (a0 == 7) = true := beq_iff_eq.mpr c14
                  have c14b1 : (a0 != 7) = false := bne_eq_false_iff_eq.mpr c14
                  clear c14
                  simp only [Option.some.injEq, Prod.mk.injEq] at H
                  obtain ⟨rfl, rfl⟩ := H
                  go_wp2
                  go_ret2
                  exact ⟨by first | rfl | (simp; done) | (simp [*]; done), by repeat (first | exact Drawn0.refl _ | apply Drawn0.step)⟩
                · rw [if_neg c14] at H
                  have c14b0 : (a0 == 7) = false := beq_eq_false_iff_ne.mpr c14
                  have c14b1 : (a0 != 7) = true := bne_iff_ne.mpr c14
                  by_cases c15 : a0 = 8
                  · rw [if_pos c15] at H
                    have c15b0 : (a0 == 8) = true := beq_iff_eq.mpr c15
                    have c15b1 : (a0 != 8) = false := bne_eq_false_iff_eq.mpr c15
                    clear c15
                    simp only [Option.some.injEq, Prod.mk.injEq] at H
                    obtain ⟨rfl, rfl⟩ := H
                    go_wp2
                    go_ret2
                    exact ⟨by first | rfl | (simp; done) | (simp [*]; done), by repeat (first | exact Drawn0.refl _ | apply Drawn0.step)⟩
                  · rw [if_neg c15] at H
                    have c15b0 : (a0 == 8) = false := beq_eq_false_iff_ne.mpr c15
                    have c15b1 : (a0 != 8) = true := bne_iff_ne.mpr c15
                    by_cases c16 : a0 = 10
                    · rw [if_pos c16] at H
                      have c16b0 : (a0 == 10) = true := beq_iff_eq.mpr c16
                      have c16b1 : (a0 != 10) = false := bne_eq_false_iff_eq.mpr c16
                      clear c16
                      by_cases c17 : a2 = (-9223372036854775808)
                      · rw [if_pos c17] at H
                        have c17b0 : (a2 == (-9223372036854775808)) = true := beq_iff_eq.mpr c17
                        have c17b1 : (a2 != (-9223372036854775808)) = false := bne_eq_false_iff_eq.mpr c17
                        clear c17
                        simp only [Option.some.injEq, Prod.mk.injEq] at H
                        obtain ⟨rfl, rfl⟩ := H
                        go_wp2
                        go_ret2
                        exact ⟨by first | rfl | (simp; done) | (simp [*]; done), by repeat (first | exact Drawn0.refl _ | apply Drawn0.step)⟩
                      · rw [if_neg c17] at H
                        have c17b0 : (a2 == (-9223372036854775808)) = false := beq_eq_false_iff_ne.mpr c17
                        have c17b1 : (a2 != (-9223372036854775808)) = true := bne_iff_ne.mpr c17
                        replace H := Option.bind_eq_some_iff.mp H
                        obtain ⟨t101, A180, H⟩ := H
                        replace H : (some (wrap64 (t101), 0)) = some (r1, r2) := H
                        have A18 := Aside0.mk A180
                        clear A180
                        simp only [Option.some.injEq, Prod.mk.injEq] at H
                        obtain ⟨rfl, rfl⟩ := H
                        go_wp2_with (first | ((with_reducible refine gate_callee (f := 20) rfl ?_); refine goesL_ (some 67) rfl rfl Try.func20 (by kernel_rfl) rfl #[.int .u64 (IntKind.u64.wrap (a1)), .int .i64 (wrap64 (-a2))] rfl (by (try simp only [List.map_toArray, List.map_cons, List.map_nil]); first | done | rfl | (simp only [List.length_drop, List.length_take]; rfl)) ?_; (with_reducible refine (num_shift.calls kj6 (IntKind.u64.wrap (a1)) (wrap64 (-a2)) t101 _ A18.out).mono ?_); rintro e w' ⟨rfl, ⟨nd, rfl⟩⟩; refine ⟨_, rfl, ?_⟩))
                        go_ret2
                        exact ⟨by first | rfl | (simp; done) | (simp [*]; done), by repeat (first | exact Drawn0.refl _ | apply Drawn0.step)⟩
                    · rw [if_neg c16] at H
                      have c16b0 : (a0 == 10) = false := beq_eq_false_iff_ne.mpr c16
                      have c16b1 : (a0 != 10) = true := bne_iff_ne.mpr c16
                      by_cases c19 : a0 = 9
                      · rw [if_pos c19] at H
                        have c19b0 : (a0 == 9) = true := beq_iff_eq.mpr c19
                        have c19b1 : (a0 != 9) = false := bne_eq_false_iff_eq.mpr c19
                        clear c19
                        replace H := Option.bind_eq_some_iff.mp H
                        obtain ⟨t102, A200, H⟩ := H
                        replace H : (some (wrap64 (t102), 0)) = some (r1, r2) := H
                        have A20 := Aside0.mk A200
                        clear A200
                        simp only [Option.some.injEq, Prod.mk.injEq] at H
                        obtain ⟨rfl, rfl⟩ := H
                        go_wp2_with (first | ((with_reducible refine gate_callee (f := 20) rfl ?_); refine goesL_ (some 67) rfl rfl Try.func20 (by kernel_rfl) rfl #[.int .u64 (IntKind.u64.wrap (a1)), .int .i64 a2] rfl (by (try simp only [List.map_toArray, List.map_cons, List.map_nil]); first | done | rfl | (simp only [List.length_drop, List.length_take]; rfl)) ?_; (with_reducible refine (num_shift.calls kj6 (IntKind.u64.wrap (a1)) a2 t102 _ A20.out).mono ?_); rintro e w' ⟨rfl, ⟨nd, rfl⟩⟩; refine ⟨_, rfl, ?_⟩))
                        go_ret2
                        exact ⟨by first | rfl | (simp; done) | (simp [*]; done), by repeat (first | exact Drawn0.refl _ | apply Drawn0.step)⟩
                      · rw [if_neg c19] at H
                        have c19b0 : (a0 == 9) = false := beq_eq_false_iff_ne.mpr c19
                        have c19b1 : (a0 != 9) = true := bne_iff_ne.mpr c19
                        simp only [Option.some.injEq, Prod.mk.injEq] at H
                        obtain ⟨rfl, rfl⟩ := H
                        go_wp2
                        go_ret2
                        exact ⟨by first | rfl | (simp; done) | (simp [*]; done), by repeat (first | exact Drawn0.refl _ | apply Drawn0.step)⟩

/-! ### num_Count: function 12 -/
mutual
def num_Count.j0 : Nat → Int → Int → Int → Bool → Option (Int × Int)
  | 0, _, _, _, _ => none
  | k + 1, x0, x1, x2, x11 => if x11 = true then (if (IntKind.u64.wrap (x2)) = 0 then (none) else (if (IntKind.u64.wrap (Int.tdiv (IntKind.u64.wrap (wrap64 (x1 - x0))) (IntKind.u64.wrap (x2)))) < 18446744073709551615 then (some (IntKind.u64.wrap ((IntKind.u64.wrap (Int.tdiv (IntKind.u64.wrap (wrap64 (x1 - x0))) (IntKind.u64.wrap (x2)))) + 1), 0)) else (some (IntKind.u64.wrap (Int.tdiv (IntKind.u64.wrap (wrap64 (x1 - x0))) (IntKind.u64.wrap (x2))), 0)))) else (if x2 < 0 then (num_Count.j1 k x0 x1 x2 (decide (x0 ≥ x1))) else (num_Count.j1 k x0 x1 x2 false))
def num_Count.j1 : Nat → Int → Int → Int → Bool → Option (Int × Int)
  | 0, _, _, _, _ => none
  | k + 1, x0, x1, x2, x25 => if x25 = true then (if (IntKind.u64.wrap (wrap64 (-x2))) = 0 then (none) else (if (IntKind.u64.wrap (Int.tdiv (IntKind.u64.wrap (wrap64 (x0 - x1))) (IntKind.u64.wrap (wrap64 (-x2))))) < 18446744073709551615 then (some (IntKind.u64.wrap ((IntKind.u64.wrap (Int.tdiv (IntKind.u64.wrap (wrap64 (x0 - x1))) (IntKind.u64.wrap (wrap64 (-x2))))) + 1), 0)) else (some (IntKind.u64.wrap (Int.tdiv (IntKind.u64.wrap (wrap64 (x0 - x1))) (IntKind.u64.wrap (wrap64 (-x2)))), 0)))) else (if x2 = 0 then (some (0, 1)) else (some (0, 0)))
end
def num_Count.f (k : Nat) (a0 : Int) (a1 : Int) (a2 : Int) : Option (Int × Int) := if a2 > 0 then (num_Count.j0 k a0 a1 a2 (decide (a0 ≤ a1))) else (num_Count.j0 k a0 a1 a2 false)
theorem num_Count.mono_l : ∀ k, (∀ y0 y1 y2 y3, LeO (num_Count.j0 k y0 y1 y2 y3) (num_Count.j0 (k + 1) y0 y1 y2 y3)) ∧ (∀ y0 y1 y2 y3, LeO (num_Count.j1 k y0 y1 y2 y3) (num_Count.j1 (k + 1) y0 y1 y2 y3))
  | 0 => ⟨fun _ _ _ _ r h => by simp [num_Count.j0] at h, fun _ _ _ _ r h => by simp [num_Count.j1] at h⟩
  | k + 1 => by
    obtain ⟨ih0, ih1⟩ := num_Count.mono_l k
    refine ⟨?_, ?_⟩
    · intro y0 y1 y2 y3
      unfold num_Count.j0
      repeat' first
      | (with_reducible exact ih0 _ _ _ _)
      | (with_reducible exact ih1 _ _ _ _)
      | (with_reducible exact LeO.refl _)
      | (with_reducible exact LeO.none _)
      | (with_reducible refine LeO.ite ?_ ?_)
      | (with_reducible refine LeO.bind ?_ (fun _ => ?_))
      | exact ih0 _ _ _ _
      | exact ih1 _ _ _ _
      | exact LeO.none _
      | refine LeO.ite ?_ ?_
      | refine LeO.bind ?_ (fun _ => ?_)
    · intro y0 y1 y2 y3
      unfold num_Count.j1
      repeat' first
      | (with_reducible exact ih0 _ _ _ _)
      | (with_reducible exact ih1 _ _ _ _)
      | (with_reducible exact LeO.refl _)
      | (with_reducible exact LeO.none _)
      | (with_reducible refine LeO.ite ?_ ?_)
      | (with_reducible refine LeO.bind ?_ (fun _ => ?_))
      | exact ih0 _ _ _ _
      | exact ih1 _ _ _ _
      | exact LeO.none _
      | refine LeO.ite ?_ ?_
      | refine LeO.bind ?_ (fun _ => ?_)
theorem num_Count.mono : ∀ a0 a1 a2 k, LeO (num_Count.f k a0 a1 a2) (num_Count.f (k + 1) a0 a1 a2) := by
  intro a0 a1 a2 k
  obtain ⟨ih0, ih1⟩ := num_Count.mono_l k
  unfold num_Count.f
  repeat' first
      | (with_reducible exact ih0 _ _ _ _)
      | (with_reducible exact ih1 _ _ _ _)
      | (with_reducible exact LeO.refl _)
      | (with_reducible exact LeO.none _)
      | (with_reducible refine LeO.ite ?_ ?_)
      | (with_reducible refine LeO.bind ?_ (fun _ => ?_))
      | exact ih0 _ _ _ _
      | exact ih1 _ _ _ _
      | exact LeO.none _
      | refine LeO.ite ?_ ?_
      | refine LeO.bind ?_ (fun _ => ?_)
set_option maxHeartbeats 8000000 in
set_option maxRecDepth 100000 in
theorem num_Count.calls (k : Nat) (a0 : Int) (a1 : Int) (a2 : Int) (r1 : Int) (r2 : Int) (w : World) (h : num_Count.f k a0 a1 a2 = some (r1, r2)) :
    Calls Try.prog 12 #[.int .i64 a0, .int .i64 a1, .int .i64 a2] w fun e w' => e = .returned (.tuple #[.int .u64 r1, .int .i64 r2]) ∧ Drawn0 w w' := by
  have H : (if a2 > 0 then (num_Count.j0 k a0 a1 a2 (decide (a0 ≤ a1))) else (num_Count.j0 k a0 a1 a2 false)) = some (r1, r2) := h
  clear h
  have HC4 := Aside0.mk H
  clear H
  go_enter Try.func12, Try.ntmps12
  go_upto_region 3 with (fail)
  go_cut [11] (fun v11 wc => ∃ (kq : Nat) (x11_3 : Bool), v11 = .bool x11_3 ∧ Aside0 (num_Count.j0 kq a0 a1 a2 x11_3 = some (r1, r2)) ∧ Aside0 (kq ≤ k) ∧ Drawn0 w wc)
  case first =>
    have H := HC4.out
    clear HC4
    by_cases c5 : a2 > 0
    · rw [if_pos c5] at H
      have c5b0 : decide (0 < a2) = true := decide_eq_true c5
      clear c5
      (first | rw [c5b0] | (simp only [i64_w, i32_w]; rw [c5b0]) | skip)
      have H' := Aside0.mk H
      clear H
      go_wp2
      go_meet
      case rel => exact ⟨_, (decide (a0 ≤ a1)), (by first | rfl | (simp; done) | (simp [*]; done)), H', ⟨by first | omega | exact Nat.le_refl _⟩, by repeat (first | exact Drawn0.refl _ | apply Drawn0.step)⟩
    · rw [if_neg c5] at H
      have c5b0 : decide (0 < a2) = false := decide_eq_false c5
      clear c5
      (first | rw [c5b0] | (simp only [i64_w, i32_w]; rw [c5b0]) | skip)
      have H' := Aside0.mk H
      clear H
      go_wp2
      go_meet
      case rel => exact ⟨_, (false), (by first | rfl | (simp; done) | (simp [*]; done)), H', ⟨by first | omega | exact Nat.le_refl _⟩, by repeat (first | exact Drawn0.refl _ | apply Drawn0.step)⟩
  case rest =>
    clear HC4
    try clear c1
    try clear p2
    try clear c5
    try clear c5b0
    obtain ⟨kq, x11_3, rfl, HA, HJ3, ⟨mc3, rfl⟩⟩ := hcut
    cases kq with
    | zero => exact absurd HA.out (by simp [num_Count.j0])
    | succ kj3 =>
      have H := HA.out
      clear HA
      simp only [num_Count.j0] at H
      by_cases c6 : x11_3 = true
      · subst c6
        have H1 : (if (IntKind.u64.wrap (a2)) = 0 then (none) else (if (IntKind.u64.wrap (Int.tdiv (IntKind.u64.wrap (wrap64 (a1 - a0))) (IntKind.u64.wrap (a2)))) < 18446744073709551615 then (some (IntKind.u64.wrap ((IntKind.u64.wrap (Int.tdiv (IntKind.u64.wrap (wrap64 (a1 - a0))) (IntKind.u64.wrap (a2)))) + 1), 0)) else (some (IntKind.u64.wrap (Int.tdiv (IntKind.u64.wrap (wrap64 (a1 - a0))) (IntKind.u64.wrap (a2))), 0)))) = some (r1, r2) := by rw [if_pos rfl] at H; exact H
        clear H
        have H := H1
        clear H1
        by_cases c7 : (IntKind.u64.wrap (a2)) = 0
        · rw [if_pos c7] at H
          exact absurd H (by simp)
        · rw [if_neg c7] at H
          have c7b0 : ((IntKind.u64.wrap (a2)) == 0) = false := beq_eq_false_iff_ne.mpr c7
          have c7b1 : ((IntKind.u64.wrap (a2)) != 0) = true := bne_iff_ne.mpr c7
          by_cases c8 : (IntKind.u64.wrap (Int.tdiv (IntKind.u64.wrap (wrap64 (a1 - a0))) (IntKind.u64.wrap (a2)))) < 18446744073709551615
          · rw [if_pos c8] at H
            have c8b0 : decide ((IntKind.u64.wrap (Int.tdiv (IntKind.u64.wrap (wrap64 (a1 - a0))) (IntKind.u64.wrap (a2)))) < 18446744073709551615) = true := decide_eq_true c8
            clear c8
            simp only [Option.some.injEq, Prod.mk.injEq] at H
            obtain ⟨rfl, rfl⟩ := H
            go_wp2
            go_ret2
            exact ⟨by first | rfl | (simp; done) | (simp [*]; done), by repeat (first | exact Drawn0.refl _ | apply Drawn0.step)⟩
          · rw [if_neg c8] at H
            have c8b0 : decide ((IntKind.u64.wrap (Int.tdiv (IntKind.u64.wrap (wrap64 (a1 - a0))) (IntKind.u64.wrap (a2)))) < 18446744073709551615) = false := decide_eq_false c8
            clear c8
            simp only [Option.some.injEq, Prod.mk.injEq] at H
            obtain ⟨rfl, rfl⟩ := H
            go_wp2
            go_ret2
            exact ⟨by first | rfl | (simp; done) | (simp [*]; done), by repeat (first | exact Drawn0.refl _ | apply Drawn0.step)⟩
      · replace c6 := Bool.eq_false_iff.mpr c6
        subst c6
        have H1 : (if a2 < 0 then (num_Count.j1 kj3 a0 a1 a2 (decide (a0 ≥ a1))) else (num_Count.j1 kj3 a0 a1 a2 false)) = some (r1, r2) := by rw [if_neg (show ¬ (false = true) by decide)] at H; exact H
        clear H
        have H := H1
        clear H1
        have HC9 := Aside0.mk H
        clear H
        go_upto_region 5 with (fail)
        go_cut [25] (fun v25 wc => ∃ (kq : Nat) (x25_8 : Bool), v25 = .bool x25_8 ∧ Aside0 (num_Count.j1 kq a0 a1 a2 x25_8 = some (r1, r2)) ∧ Aside0 (kq ≤ kj3) ∧ Drawn0 w wc)
        case first =>
          have H := HC9.out
          clear HC9
          by_cases c10 : a2 < 0
          · rw [if_pos c10] at H
            have c10b0 : decide (a2 < 0) = true := decide_eq_true c10
            clear c10
            (first | rw [c10b0] | (simp only [i64_w, i32_w]; rw [c10b0]) | skip)
            have H' := Aside0.mk H
            clear H
            go_wp2
            go_meet
            case rel => exact ⟨_, (decide (a0 ≥ a1)), (by first | rfl | (simp; done) | (simp [*]; done)), H', ⟨by have := HJ3.out; first | omega | exact Nat.le_refl _⟩, by repeat (first | exact Drawn0.refl _ | apply Drawn0.step)⟩
          · rw [if_neg c10] at H
            have c10b0 : decide (a2 < 0) = false := decide_eq_false c10
            clear c10
            (first | rw [c10b0] | (simp only [i64_w, i32_w]; rw [c10b0]) | skip)
            have H' := Aside0.mk H
            clear H
            go_wp2
            go_meet
            case rel => exact ⟨_, (false), (by first | rfl | (simp; done) | (simp [*]; done)), H', ⟨by have := HJ3.out; first | omega | exact Nat.le_refl _⟩, by repeat (first | exact Drawn0.refl _ | apply Drawn0.step)⟩
        case rest =>
          clear HC9
          try clear c1
          try clear p2
          try clear c3
          try clear c5
          try clear c5b0
          try clear c6
          try clear p6
          try clear c7
          try clear c7b0
          try clear c7b1
          try clear c8
          try clear c8b0
          try clear c10
          try clear c10b0
          try clear p2
          obtain ⟨kq, x25_8, rfl, HA, HJ8, ⟨mc8, rfl⟩⟩ := hcut
          cases kq with
          | zero => exact absurd HA.out (by simp [num_Count.j1])
          | succ kj8 =>
            have H := HA.out
            clear HA
            simp only [num_Count.j1] at H
            by_cases c11 : x25_8 = true
            · subst c11
              have H1 : (if (IntKind.u64.wrap (wrap64 (-a2))) = 0 then (none) else (if (IntKind.u64.wrap (Int.tdiv (IntKind.u64.wrap (wrap64 (a0 - a1))) (IntKind.u64.wrap (wrap64 (-a2))))) < 18446744073709551615 then (some (IntKind.u64.wrap ((IntKind.u64.wrap (Int.tdiv (IntKind.u64.wrap (wrap64 (a0 - a1))) (IntKind.u64.wrap (wrap64 (-a2))))) + 1), 0)) else (some (IntKind.u64.wrap (Int.tdiv (IntKind.u64.wrap (wrap64 (a0 - a1))) (IntKind.u64.wrap (wrap64 (-a2)))), 0)))) = some (r1, r2) := by rw [if_pos rfl] at H; exact H
              clear H
              have H := H1
              clear H1
              by_cases c12 : (IntKind.u64.wrap (wrap64 (-a2))) = 0
              · rw [if_pos c12] at H
                exact absurd H (by simp)
              · rw [if_neg c12] at H
                have c12b0 : ((IntKind.u64.wrap (wrap64 (-a2))) == 0) = false := beq_eq_false_iff_ne.mpr c12
                have c12b1 : ((IntKind.u64.wrap (wrap64 (-a2))) != 0) = true := bne_iff_ne.mpr c12
                by_cases c13 : (IntKind.u64.wrap (Int.tdiv (IntKind.u64.wrap (wrap64 (a0 - a1))) (IntKind.u64.wrap (wrap64 (-a2))))) < 18446744073709551615
                · rw [if_pos c13] at H
                  have c13b0 : decide ((IntKind.u64.wrap (Int.tdiv (IntKind.u64.wrap (wrap64 (a0 - a1))) (IntKind.u64.wrap (wrap64 (-a2))))) < 18446744073709551615) = true := decide_eq_true c13
                  clear c13
                  simp only [Option.some.injEq, Prod.mk.injEq] at H
                  obtain ⟨rfl, rfl⟩ := H
                  go_wp2
                  go_ret2
                  exact ⟨by first | rfl | (simp; done) | (simp [*]; done), by repeat (first | exact Drawn0.refl _ | apply Drawn0.step)⟩
                · rw [if_neg c13] at H
                  have c13b0 : decide ((IntKind.u64.wrap (Int.tdiv (IntKind.u64.wrap (wrap64 (a0 - a1))) (IntKind.u64.wrap (wrap64 (-a2))))) < 18446744073709551615) = false := decide_eq_false c13
                  clear c13
                  simp only [Option.some.injEq, Prod.mk.injEq] at H
                  obtain ⟨rfl, rfl⟩ := H
                  go_wp2
                  go_ret2
                  exact ⟨by first | rfl | (simp; done) | (simp [*]; done), by repeat (first | exact Drawn0.refl _ | apply Drawn0.step)⟩
            · replace c11 := Bool.eq_false_iff.mpr c11
              subst c11
              have H1 : (if a2 = 0 then (some (0, 1)) else (some (0, 0))) = some (r1, r2) := by rw [if_neg (show ¬ (false = true) by decide)] at H; exact H
              clear H
              have H := H1
              clear H1
              by_cases c14 : a2 = 0
              · rw [if_pos c14] at H
                have c14b0 : (a2 == 0) = true := beq_iff_eq.mpr c14
                have c14b1 : (a2 != 0) = false := bne_eq_false_iff_eq.mpr c14
                clear c14
                simp only [Option.some.injEq, Prod.mk.injEq] at H
                obtain ⟨rfl, rfl⟩ := H
                go_wp2
                go_ret2
                exact ⟨by first | rfl | (simp; done) | (simp [*]; done), by repeat (first | exact Drawn0.refl _ | apply Drawn0.step)⟩
              · rw [if_neg c14] at H
                have c14b0 : (a2 == 0) = false := beq_eq_false_iff_ne.mpr c14
                have c14b1 : (a2 != 0) = true := bne_iff_ne.mpr c14
                simp only [Option.some.injEq, Prod.mk.injEq] at H
                obtain ⟨rfl, rfl⟩ := H
                go_wp2
                go_ret2
                exact ⟨by first | rfl | (simp; done) | (simp [*]; done), by repeat (first | exact Drawn0.refl _ | apply Drawn0.step)⟩

/-! ### selkielaw02_alive: function 9 -/
def selkielaw02_alive.f (k : Nat)  : Option (Bool) := (num_Do.f k 4 (-7) 2).bind fun bt105 => ((num_Do.f k 5 7 (-2)).bind fun bt107 => ((num_Do.f k 10 (-1) 60).bind fun bt109 => ((num_Count.f k 1 10 3).bind fun bt111 => ((num_Do.f k 4 1 0).bind fun bt113 => (if bt105.1 = (-4) then (if bt107.1 = (-1) then (if bt109.1 = 15 then (if bt111.1 = 4 then (some (bt113.2 == 2)) else (some false)) else (some false)) else (some false)) else (some false))))))
theorem selkielaw02_alive.mono : ∀ k, LeO (selkielaw02_alive.f k ) (selkielaw02_alive.f (k + 1) ) := by
  intro  k
  unfold selkielaw02_alive.f
  repeat' first
      | (with_reducible exact num_Count.mono _ _ _ _)
      | (with_reducible exact num_Do.mono _ _ _ _)
      | (with_reducible exact LeO.refl _)
      | (with_reducible exact LeO.none _)
      | (with_reducible refine LeO.ite ?_ ?_)
      | (with_reducible refine LeO.bind ?_ (fun _ => ?_))
      | exact num_Count.mono _ _ _ _
      | exact num_Do.mono _ _ _ _
      | exact LeO.none _
      | refine LeO.ite ?_ ?_
      | refine LeO.bind ?_ (fun _ => ?_)
set_option maxHeartbeats 8000000 in
set_option maxRecDepth 100000 in
theorem selkielaw02_alive.calls (k : Nat)  (r : Bool) (w : World) (h : selkielaw02_alive.f k  = some r) :
    Calls Try.prog 9 #[] w fun e w' => e = .returned (.bool r) ∧ Drawn0 w w' := by
  have H : ((num_Do.f k 4 (-7) 2).bind fun bt105 => ((num_Do.f k 5 7 (-2)).bind fun bt107 => ((num_Do.f k 10 (-1) 60).bind fun bt109 => ((num_Count.f k 1 10 3).bind fun bt111 => ((num_Do.f k 4 1 0).bind fun bt113 => (if bt105.1 = (-4) then (if bt107.1 = (-1) then (if bt109.1 = 15 then (if bt111.1 = 4 then (some (bt113.2 == 2)) else (some false)) else (some false)) else (some false)) else (some false))))))) = some r := h
  clear h
  replace H := Option.bind_eq_some_iff.mp H
  obtain ⟨⟨t105, t106⟩, A10, H⟩ := H
  replace H : ((num_Do.f k 5 7 (-2)).bind fun bt107 => ((num_Do.f k 10 (-1) 60).bind fun bt109 => ((num_Count.f k 1 10 3).bind fun bt111 => ((num_Do.f k 4 1 0).bind fun bt113 => (if t105 = (-4) then (if bt107.1 = (-1) then (if bt109.1 = 15 then (if bt111.1 = 4 then (some (bt113.2 == 2)) else (some false)) else (some false)) else (some false)) else (some false)))))) = some r := H
  have A1 := Aside0.mk A10
  clear A10
  replace H := Option.bind_eq_some_iff.mp H
  obtain ⟨⟨t107, t108⟩, A20, H⟩ := H
  replace H : ((num_Do.f k 10 (-1) 60).bind fun bt109 => ((num_Count.f k 1 10 3).bind fun bt111 => ((num_Do.f k 4 1 0).bind fun bt113 => (if t105 = (-4) then (if t107 = (-1) then (if bt109.1 = 15 then (if bt111.1 = 4 then (some (bt113.2 == 2)) else (some false)) else (some false)) else (some false)) else (some false))))) = some r := H
  have A2 := Aside0.mk A20
  clear A20
  replace H := Option.bind_eq_some_iff.mp H
  obtain ⟨⟨t109, t110⟩, A30, H⟩ := H
  replace H : ((num_Count.f k 1 10 3).bind fun bt111 => ((num_Do.f k 4 1 0).bind fun bt113 => (if t105 = (-4) then (if t107 = (-1) then (if t109 = 15 then (if bt111.1 = 4 then (some (bt113.2 == 2)) else (some false)) else (some false)) else (some false)) else (some false)))) = some r := H
  have A3 := Aside0.mk A30
  clear A30
  replace H := Option.bind_eq_some_iff.mp H
  obtain ⟨⟨t111, t112⟩, A40, H⟩ := H
  replace H : ((num_Do.f k 4 1 0).bind fun bt113 => (if t105 = (-4) then (if t107 = (-1) then (if t109 = 15 then (if t111 = 4 then (some (bt113.2 == 2)) else (some false)) else (some false)) else (some false)) else (some false))) = some r := H
  have A4 := Aside0.mk A40
  clear A40
  replace H := Option.bind_eq_some_iff.mp H
  obtain ⟨⟨t113, t114⟩, A50, H⟩ := H
  replace H : (if t105 = (-4) then (if t107 = (-1) then (if t109 = 15 then (if t111 = 4 then (some (t114 == 2)) else (some false)) else (some false)) else (some false)) else (some false)) = some r := H
  have A5 := Aside0.mk A50
  clear A50
  by_cases c6 : t105 = (-4)
  · rw [if_pos c6] at H
    have c6b0 : (t105 == (-4)) = true := beq_iff_eq.mpr c6
    have c6b1 : (t105 != (-4)) = false := bne_eq_false_iff_eq.mpr c6
    clear c6
    by_cases c7 : t107 = (-1)
    · rw [if_pos c7] at H
      have c7b0 : (t107 == (-1)) = true := beq_iff_eq.mpr c7
      have c7b1 : (t107 != (-1)) = false := bne_eq_false_iff_eq.mpr c7
      clear c7
      by_cases c8 : t109 = 15
      · rw [if_pos c8] at H
        have c8b0 : (t109 == 15) = true := beq_iff_eq.mpr c8
        have c8b1 : (t109 != 15) = false := bne_eq_false_iff_eq.mpr c8
        clear c8
        by_cases c9 : t111 = 4
        · rw [if_pos c9] at H
          have c9b0 : (t111 == 4) = true := beq_iff_eq.mpr c9
          have c9b1 : (t111 != 4) = false := bne_eq_false_iff_eq.mpr c9
          clear c9
          obtain rfl := Option.some.inj H
          go_enter Try.func9, Try.ntmps9
          go_wp2_with (first | ((with_reducible refine gate_callee (f := 10) rfl ?_); refine goesL_ (some 12) rfl rfl Try.func10 (by kernel_rfl) rfl #[.int .i64 4, .int .i64 (-7), .int .i64 2] rfl (by (try simp only [List.map_toArray, List.map_cons, List.map_nil]); first | done | rfl | (simp only [List.length_drop, List.length_take]; rfl)) ?_; (with_reducible refine (num_Do.calls k 4 (-7) 2 t105 t106 _ A1.out).mono ?_); rintro e w' ⟨rfl, ⟨nd, rfl⟩⟩; refine ⟨_, rfl, ?_⟩) | ((with_reducible refine gate_callee (f := 10) rfl ?_); refine goesL_ (some 16) rfl rfl Try.func10 (by kernel_rfl) rfl #[.int .i64 5, .int .i64 7, .int .i64 (-2)] rfl (by (try simp only [List.map_toArray, List.map_cons, List.map_nil]); first | done | rfl | (simp only [List.length_drop, List.length_take]; rfl)) ?_; (with_reducible refine (num_Do.calls k 5 7 (-2) t107 t108 _ A2.out).mono ?_); rintro e w' ⟨rfl, ⟨nd, rfl⟩⟩; refine ⟨_, rfl, ?_⟩) | ((with_reducible refine gate_callee (f := 10) rfl ?_); refine goesL_ (some 20) rfl rfl Try.func10 (by kernel_rfl) rfl #[.int .i64 10, .int .i64 (-1), .int .i64 60] rfl (by (try simp only [List.map_toArray, List.map_cons, List.map_nil]); first | done | rfl | (simp only [List.length_drop, List.length_take]; rfl)) ?_; (with_reducible refine (num_Do.calls k 10 (-1) 60 t109 t110 _ A3.out).mono ?_); rintro e w' ⟨rfl, ⟨nd, rfl⟩⟩; refine ⟨_, rfl, ?_⟩) | ((with_reducible refine gate_callee (f := 12) rfl ?_); refine goesL_ (some 24) rfl rfl Try.func12 (by kernel_rfl) rfl #[.int .i64 1, .int .i64 10, .int .i64 3] rfl (by (try simp only [List.map_toArray, List.map_cons, List.map_nil]); first | done | rfl | (simp only [List.length_drop, List.length_take]; rfl)) ?_; (with_reducible refine (num_Count.calls k 1 10 3 t111 t112 _ A4.out).mono ?_); rintro e w' ⟨rfl, ⟨nd, rfl⟩⟩; refine ⟨_, rfl, ?_⟩) | ((with_reducible refine gate_callee (f := 10) rfl ?_); refine goesL_ (some 28) rfl rfl Try.func10 (by kernel_rfl) rfl #[.int .i64 4, .int .i64 1, .int .i64 0] rfl (by (try simp only [List.map_toArray, List.map_cons, List.map_nil]); first | done | rfl | (simp only [List.length_drop, List.length_take]; rfl)) ?_; (with_reducible refine (num_Do.calls k 4 1 0 t113 t114 _ A5.out).mono ?_); rintro e w' ⟨rfl, ⟨nd, rfl⟩⟩; refine ⟨_, rfl, ?_⟩))
          go_ret
          exact ⟨by first | rfl | (simp; done) | (simp [*]; done), by repeat (first | exact Drawn0.refl _ | apply Drawn0.step)⟩
        · rw [if_neg c9] at H
          have c9b0 : (t111 == 4) = false := beq_eq_false_iff_ne.mpr c9
          have c9b1 : (t111 != 4) = true := bne_iff_ne.mpr c9
          obtain rfl := Option.some.inj H
          go_enter Try.func9, Try.ntmps9
          go_wp2_with (first | ((with_reducible refine gate_callee (f := 10) rfl ?_); refine goesL_ (some 12) rfl rfl Try.func10 (by kernel_rfl) rfl #[.int .i64 4, .int .i64 (-7), .int .i64 2] rfl (by (try simp only [List.map_toArray, List.map_cons, List.map_nil]); first | done | rfl | (simp only [List.length_drop, List.length_take]; rfl)) ?_; (with_reducible refine (num_Do.calls k 4 (-7) 2 t105 t106 _ A1.out).mono ?_); rintro e w' ⟨rfl, ⟨nd, rfl⟩⟩; refine ⟨_, rfl, ?_⟩) | ((with_reducible refine gate_callee (f := 10) rfl ?_); refine goesL_ (some 16) rfl rfl Try.func10 (by kernel_rfl) rfl #[.int .i64 5, .int .i64 7, .int .i64 (-2)] rfl (by (try simp only [List.map_toArray, List.map_cons, List.map_nil]); first | done | rfl | (simp only [List.length_drop, List.length_take]; rfl)) ?_; (with_reducible refine (num_Do.calls k 5 7 (-2) t107 t108 _ A2.out).mono ?_); rintro e w' ⟨rfl, ⟨nd, rfl⟩⟩; refine ⟨_, rfl, ?_⟩) | ((with_reducible refine gate_callee (f := 10) rfl ?_); refine goesL_ (some 20) rfl rfl Try.func10 (by kernel_rfl) rfl #[.int .i64 10, .int .i64 (-1), .int .i64 60] rfl (by (try simp only [List.map_toArray, List.map_cons, List.map_nil]); first | done | rfl | (simp only [List.length_drop, List.length_take]; rfl)) ?_; (with_reducible refine (num_Do.calls k 10 (-1) 60 t109 t110 _ A3.out).mono ?_); rintro e w' ⟨rfl, ⟨nd, rfl⟩⟩; refine ⟨_, rfl, ?_⟩) | ((with_reducible refine gate_callee (f := 12) rfl ?_); refine goesL_ (some 24) rfl rfl Try.func12 (by kernel_rfl) rfl #[.int .i64 1, .int .i64 10, .int .i64 3] rfl (by (try simp only [List.map_toArray, List.map_cons, List.map_nil]); first | done | rfl | (simp only [List.length_drop, List.length_take]; rfl)) ?_; (with_reducible refine (num_Count.calls k 1 10 3 t111 t112 _ A4.out).mono ?_); rintro e w' ⟨rfl, ⟨nd, rfl⟩⟩; refine ⟨_, rfl, ?_⟩) | ((with_reducible refine gate_callee (f := 10) rfl ?_); refine goesL_ (some 28) rfl rfl Try.func10 (by kernel_rfl) rfl #[.int .i64 4, .int .i64 1, .int .i64 0] rfl (by (try simp only [List.map_toArray, List.map_cons, List.map_nil]); first | done | rfl | (simp only [List.length_drop, List.length_take]; rfl)) ?_; (with_reducible refine (num_Do.calls k 4 1 0 t113 t114 _ A5.out).mono ?_); rintro e w' ⟨rfl, ⟨nd, rfl⟩⟩; refine ⟨_, rfl, ?_⟩))
          go_ret
          exact ⟨by first | rfl | (simp; done) | (simp [*]; done), by repeat (first | exact Drawn0.refl _ | apply Drawn0.step)⟩
      · rw [if_neg c8] at H
        have c8b0 : (t109 == 15) = false := beq_eq_false_iff_ne.mpr c8
        have c8b1 : (t109 != 15) = true := bne_iff_ne.mpr c8
        obtain rfl := Option.some.inj H
        go_enter Try.func9, Try.ntmps9
        go_wp2_with (first | ((with_reducible refine gate_callee (f := 10) rfl ?_); refine goesL_ (some 12) rfl rfl Try.func10 (by kernel_rfl) rfl #[.int .i64 4, .int .i64 (-7), .int .i64 2] rfl (by (try simp only [List.map_toArray, List.map_cons, List.map_nil]); first | done | rfl | (simp only [List.length_drop, List.length_take]; rfl)) ?_; (with_reducible refine (num_Do.calls k 4 (-7) 2 t105 t106 _ A1.out).mono ?_); rintro e w' ⟨rfl, ⟨nd, rfl⟩⟩; refine ⟨_, rfl, ?_⟩) | ((with_reducible refine gate_callee (f := 10) rfl ?_); refine goesL_ (some 16) rfl rfl Try.func10 (by kernel_rfl) rfl #[.int .i64 5, .int .i64 7, .int .i64 (-2)] rfl (by (try simp only [List.map_toArray, List.map_cons, List.map_nil]); first | done | rfl | (simp only [List.length_drop, List.length_take]; rfl)) ?_; (with_reducible refine (num_Do.calls k 5 7 (-2) t107 t108 _ A2.out).mono ?_); rintro e w' ⟨rfl, ⟨nd, rfl⟩⟩; refine ⟨_, rfl, ?_⟩) | ((with_reducible refine gate_callee (f := 10) rfl ?_); refine goesL_ (some 20) rfl rfl Try.func10 (by kernel_rfl) rfl #[.int .i64 10, .int .i64 (-1), .int .i64 60] rfl (by (try simp only [List.map_toArray, List.map_cons, List.map_nil]); first | done | rfl | (simp only [List.length_drop, List.length_take]; rfl)) ?_; (with_reducible refine (num_Do.calls k 10 (-1) 60 t109 t110 _ A3.out).mono ?_); rintro e w' ⟨rfl, ⟨nd, rfl⟩⟩; refine ⟨_, rfl, ?_⟩) | ((with_reducible refine gate_callee (f := 12) rfl ?_); refine goesL_ (some 24) rfl rfl Try.func12 (by kernel_rfl) rfl #[.int .i64 1, .int .i64 10, .int .i64 3] rfl (by (try simp only [List.map_toArray, List.map_cons, List.map_nil]); first | done | rfl | (simp only [List.length_drop, List.length_take]; rfl)) ?_; (with_reducible refine (num_Count.calls k 1 10 3 t111 t112 _ A4.out).mono ?_); rintro e w' ⟨rfl, ⟨nd, rfl⟩⟩; refine ⟨_, rfl, ?_⟩) | ((with_reducible refine gate_callee (f := 10) rfl ?_); refine goesL_ (some 28) rfl rfl Try.func10 (by kernel_rfl) rfl #[.int .i64 4, .int .i64 1, .int .i64 0] rfl (by (try simp only [List.map_toArray, List.map_cons, List.map_nil]); first | done | rfl | (simp only [List.length_drop, List.length_take]; rfl)) ?_; (with_reducible refine (num_Do.calls k 4 1 0 t113 t114 _ A5.out).mono ?_); rintro e w' ⟨rfl, ⟨nd, rfl⟩⟩; refine ⟨_, rfl, ?_⟩))
        go_ret
        exact ⟨by first | rfl | (simp; done) | (simp [*]; done), by repeat (first | exact Drawn0.refl _ | apply Drawn0.step)⟩
    · rw [if_neg c7] at H
      have c7b0 : (t107 == (-1)) = false := beq_eq_false_iff_ne.mpr c7
      have c7b1 : (t107 != (-1)) = true := bne_iff_ne.mpr c7
      obtain rfl := Option.some.inj H
      go_enter Try.func9, Try.ntmps9
      go_wp2_with (first | ((with_reducible refine gate_callee (f := 10) rfl ?_); refine goesL_ (some 12) rfl rfl Try.func10 (by kernel_rfl) rfl #[.int .i64 4, .int .i64 (-7), .int .i64 2] rfl (by (try simp only [List.map_toArray, List.map_cons, List.map_nil]); first | done | rfl | (simp only [List.length_drop, List.length_take]; rfl)) ?_; (with_reducible refine (num_Do.calls k 4 (-7) 2 t105 t106 _ A1.out).mono ?_); rintro e w' ⟨rfl, ⟨nd, rfl⟩⟩; refine ⟨_, rfl, ?_⟩) | ((with_reducible refine gate_callee (f := 10) rfl ?_); refine goesL_ (some 16) rfl rfl Try.func10 (by kernel_rfl) rfl #[.int .i64 5, .int .i64 7, .int .i64 (-2)] rfl (by (try simp only [List.map_toArray, List.map_cons, List.map_nil]); first | done | rfl | (simp only [List.length_drop, List.length_take]; rfl)) ?_; (with_reducible refine (num_Do.calls k 5 7 (-2) t107 t108 _ A2.out).mono ?_); rintro e w' ⟨rfl, ⟨nd, rfl⟩⟩; refine ⟨_, rfl, ?_⟩) | ((with_reducible refine gate_callee (f := 10) rfl ?_); refine goesL_ (some 20) rfl rfl Try.func10 (by kernel_rfl) rfl #[.int .i64 10, .int .i64 (-1), .int .i64 60] rfl (by (try simp only [List.map_toArray, List.map_cons, List.map_nil]); first | done | rfl | (simp only [List.length_drop, List.length_take]; rfl)) ?_; (with_reducible refine (num_Do.calls k 10 (-1) 60 t109 t110 _ A3.out).mono ?_); rintro e w' ⟨rfl, ⟨nd, rfl⟩⟩; refine ⟨_, rfl, ?_⟩) | ((with_reducible refine gate_callee (f := 12) rfl ?_); refine goesL_ (some 24) rfl rfl Try.func12 (by kernel_rfl) rfl #[.int .i64 1, .int .i64 10, .int .i64 3] rfl (by (try simp only [List.map_toArray, List.map_cons, List.map_nil]); first | done | rfl | (simp only [List.length_drop, List.length_take]; rfl)) ?_; (with_reducible refine (num_Count.calls k 1 10 3 t111 t112 _ A4.out).mono ?_); rintro e w' ⟨rfl, ⟨nd, rfl⟩⟩; refine ⟨_, rfl, ?_⟩) | ((with_reducible refine gate_callee (f := 10) rfl ?_); refine goesL_ (some 28) rfl rfl Try.func10 (by kernel_rfl) rfl #[.int .i64 4, .int .i64 1, .int .i64 0] rfl (by (try simp only [List.map_toArray, List.map_cons, List.map_nil]); first | done | rfl | (simp only [List.length_drop, List.length_take]; rfl)) ?_; (with_reducible refine (num_Do.calls k 4 1 0 t113 t114 _ A5.out).mono ?_); rintro e w' ⟨rfl, ⟨nd, rfl⟩⟩; refine ⟨_, rfl, ?_⟩))
      go_ret
      exact ⟨by first | rfl | (simp; done) | (simp [*]; done), by repeat (first | exact Drawn0.refl _ | apply Drawn0.step)⟩
  · rw [if_neg c6] at H
    have c6b0 : (t105 == (-4)) = false := beq_eq_false_iff_ne.mpr c6
    have c6b1 : (t105 != (-4)) = true := bne_iff_ne.mpr c6
    obtain rfl := Option.some.inj H
    go_enter Try.func9, Try.ntmps9
    go_wp2_with (first | ((with_reducible refine gate_callee (f := 10) rfl ?_); refine goesL_ (some 12) rfl rfl Try.func10 (by kernel_rfl) rfl #[.int .i64 4, .int .i64 (-7), .int .i64 2] rfl (by (try simp only [List.map_toArray, List.map_cons, List.map_nil]); first | done | rfl | (simp only [List.length_drop, List.length_take]; rfl)) ?_; (with_reducible refine (num_Do.calls k 4 (-7) 2 t105 t106 _ A1.out).mono ?_); rintro e w' ⟨rfl, ⟨nd, rfl⟩⟩; refine ⟨_, rfl, ?_⟩) | ((with_reducible refine gate_callee (f := 10) rfl ?_); refine goesL_ (some 16) rfl rfl Try.func10 (by kernel_rfl) rfl #[.int .i64 5, .int .i64 7, .int .i64 (-2)] rfl (by (try simp only [List.map_toArray, List.map_cons, List.map_nil]); first | done | rfl | (simp only [List.length_drop, List.length_take]; rfl)) ?_; (with_reducible refine (num_Do.calls k 5 7 (-2) t107 t108 _ A2.out).mono ?_); rintro e w' ⟨rfl, ⟨nd, rfl⟩⟩; refine ⟨_, rfl, ?_⟩) | ((with_reducible refine gate_callee (f := 10) rfl ?_); refine goesL_ (some 20) rfl rfl Try.func10 (by kernel_rfl) rfl #[.int .i64 10, .int .i64 (-1), .int .i64 60] rfl (by (try simp only [List.map_toArray, List.map_cons, List.map_nil]); first | done | rfl | (simp only [List.length_drop, List.length_take]; rfl)) ?_; (with_reducible refine (num_Do.calls k 10 (-1) 60 t109 t110 _ A3.out).mono ?_); rintro e w' ⟨rfl, ⟨nd, rfl⟩⟩; refine ⟨_, rfl, ?_⟩) | ((with_reducible refine gate_callee (f := 12) rfl ?_); refine goesL_ (some 24) rfl rfl Try.func12 (by kernel_rfl) rfl #[.int .i64 1, .int .i64 10, .int .i64 3] rfl (by (try simp only [List.map_toArray, List.map_cons, List.map_nil]); first | done | rfl | (simp only [List.length_drop, List.length_take]; rfl)) ?_; (with_reducible refine (num_Count.calls k 1 10 3 t111 t112 _ A4.out).mono ?_); rintro e w' ⟨rfl, ⟨nd, rfl⟩⟩; refine ⟨_, rfl, ?_⟩) | ((with_reducible refine gate_callee (f := 10) rfl ?_); refine goesL_ (some 28) rfl rfl Try.func10 (by kernel_rfl) rfl #[.int .i64 4, .int .i64 1, .int .i64 0] rfl (by (try simp only [List.map_toArray, List.map_cons, List.map_nil]); first | done | rfl | (simp only [List.length_drop, List.length_take]; rfl)) ?_; (with_reducible refine (num_Do.calls k 4 1 0 t113 t114 _ A5.out).mono ?_); rintro e w' ⟨rfl, ⟨nd, rfl⟩⟩; refine ⟨_, rfl, ?_⟩))
    go_ret
    exact ⟨by first | rfl | (simp; done) | (simp [*]; done), by repeat (first | exact Drawn0.refl _ | apply Drawn0.step)⟩

end Go.Proofs.Ytgjiknglgchgkaa.PNumCounts
