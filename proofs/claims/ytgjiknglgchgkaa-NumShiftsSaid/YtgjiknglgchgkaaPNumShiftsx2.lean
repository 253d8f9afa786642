-- PRINTED BY print.sh 35421559b90ae4d0a3588c463048766b98c2df88dd9212a6774a882060cdf62d: not written by this session
import Derived.Test.YtgjiknglgchgkaaPNumShiftsx0
import Derived.Test.YtgjiknglgchgkaaPNumShiftsx1
namespace Go.Proofs.Ytgjiknglgchgkaa.PNumShifts
open Go.RowKit Go.Proofs.YtgjiknglgchgkaaW.PrintWords Go.Proofs.YtgjiknglgchgkaaW.PrintLast Go.Proofs.YtgjiknglgchgkaaW.PrintMore
attribute [local go_sem] max2_int min2_int max_two min_two max_three min_three max_four min_four   -- for this text's walks alone
set_option linter.unusedVariables false
set_option linter.unusedSimpArgs false

/-! ### selkielaw02_NumShifts: function 6 -/
def selkielaw02_NumShifts.f (k : Nat) (a0 : Int) (a1 : Int) : Option (Bool) := (selkielaw02_alive.f k).bind fun t115 => (if t115 = true then ((num_Do.f k 9 a0 (wrap64 (Int.tmod a1 64))).bind fun bt116 => ((num_Do.f k 10 bt116.1 (wrap64 (Int.tmod a1 64))).bind fun bt118 => ((num_Do.f k 10 a0 (wrap64 (Int.tmod a1 64))).bind fun bt120 => ((num_Do.f k 9 bt120.1 (wrap64 (Int.tmod a1 64))).bind fun bt122 => (if 0 ≤ (IntKind.u64.wrap (wrap64 (Int.tmod a1 64))) then (if (IntKind.u64.wrap (bt118.1)) = (Go.bits .and .u64 (IntKind.u64.wrap (a0)) (shr .u64 18446744073709551615 (IntKind.u64.wrap (wrap64 (Int.tmod a1 64))))) then (some ((IntKind.u64.wrap (bt122.1)) == (Go.bits .and .u64 (IntKind.u64.wrap (a0)) (shl .u64 18446744073709551615 (IntKind.u64.wrap (wrap64 (Int.tmod a1 64))))))) else (some false)) else (none)))))) else (some false))
theorem selkielaw02_NumShifts.mono : ∀ a0 a1 k, LeO (selkielaw02_NumShifts.f k a0 a1) (selkielaw02_NumShifts.f (k + 1) a0 a1) := by
  intro a0 a1 k
  unfold selkielaw02_NumShifts.f
  repeat' first
      | (with_reducible exact num_Do.mono _ _ _ _)
      | (with_reducible exact selkielaw02_alive.mono _)
      | (with_reducible exact LeO.refl _)
      | (with_reducible exact LeO.none _)
      | (with_reducible refine LeO.ite ?_ ?_)
      | (with_reducible refine LeO.bind ?_ (fun _ => ?_))
      | exact num_Do.mono _ _ _ _
      | exact selkielaw02_alive.mono _
      | exact LeO.none _
      | refine LeO.ite ?_ ?_
      | refine LeO.bind ?_ (fun _ => ?_)
set_option maxHeartbeats 8000000 in
set_option maxRecDepth 100000 in
theorem selkielaw02_NumShifts.calls (k : Nat) (a0 : Int) (a1 : Int) (r : Bool) (w : World) (h : selkielaw02_NumShifts.f k a0 a1 = some r) :
    Calls Try.prog 6 #[.int .i64 a0, .int .u8 a1] w fun e w' => e = .returned (.bool r) ∧ Drawn0 w w' := by
  have H : ((selkielaw02_alive.f k).bind fun t115 => (if t115 = true then ((num_Do.f k 9 a0 (wrap64 (Int.tmod a1 64))).bind fun bt116 => ((num_Do.f k 10 bt116.1 (wrap64 (Int.tmod a1 64))).bind fun bt118 => ((num_Do.f k 10 a0 (wrap64 (Int.tmod a1 64))).bind fun bt120 => ((num_Do.f k 9 bt120.1 (wrap64 (Int.tmod a1 64))).bind fun bt122 => (if 0 ≤ (IntKind.u64.wrap (wrap64 (Int.tmod a1 64))) then (if (IntKind.u64.wrap (bt118.1)) = (Go.bits .and .u64 (IntKind.u64.wrap (a0)) (shr .u64 18446744073709551615 (IntKind.u64.wrap (wrap64 (Int.tmod a1 64))))) then (some ((IntKind.u64.wrap (bt122.1)) == (Go.bits .and .u64 (IntKind.u64.wrap (a0)) (shl .u64 18446744073709551615 (IntKind.u64.wrap (wrap64 (Int.tmod a1 64))))))) else (some false)) else (none)))))) else (some false))) = some r := h
  clear h
  replace H := Option.bind_eq_some_iff.mp H
  obtain ⟨t115, A30, H⟩ := H
  replace H : (if t115 = true then ((num_Do.f k 9 a0 (wrap64 (Int.tmod a1 64))).bind fun bt116 => ((num_Do.f k 10 bt116.1 (wrap64 (Int.tmod a1 64))).bind fun bt118 => ((num_Do.f k 10 a0 (wrap64 (Int.tmod a1 64))).bind fun bt120 => ((num_Do.f k 9 bt120.1 (wrap64 (Int.tmod a1 64))).bind fun bt122 => (if 0 ≤ (IntKind.u64.wrap (wrap64 (Int.tmod a1 64))) then (if (IntKind.u64.wrap (bt118.1)) = (Go.bits .and .u64 (IntKind.u64.wrap (a0)) (shr .u64 18446744073709551615 (IntKind.u64.wrap (wrap64 (Int.tmod a1 64))))) then (some ((IntKind.u64.wrap (bt122.1)) == (Go.bits .and .u64 (IntKind.u64.wrap (a0)) (shl .u64 18446744073709551615 (IntKind.u64.wrap (wrap64 (Int.tmod a1 64))))))) else (some false)) else (none)))))) else (some false)) = some r := H
  have A3 := Aside0.mk A30
  clear A30
  by_cases c4 : t115 = true
  · subst c4
    have H1 : ((num_Do.f k 9 a0 (wrap64 (Int.tmod a1 64))).bind fun bt116 => ((num_Do.f k 10 bt116.1 (wrap64 (Int.tmod a1 64))).bind fun bt118 => ((num_Do.f k 10 a0 (wrap64 (Int.tmod a1 64))).bind fun bt120 => ((num_Do.f k 9 bt120.1 (wrap64 (Int.tmod a1 64))).bind fun bt122 => (if 0 ≤ (IntKind.u64.wrap (wrap64 (Int.tmod a1 64))) then (if (IntKind.u64.wrap (bt118.1)) = (Go.bits .and .u64 (IntKind.u64.wrap (a0)) (shr .u64 18446744073709551615 (IntKind.u64.wrap (wrap64 (Int.tmod a1 64))))) then (some ((IntKind.u64.wrap (bt122.1)) == (Go.bits .and .u64 (IntKind.u64.wrap (a0)) (shl .u64 18446744073709551615 (IntKind.u64.wrap (wrap64 (Int.tmod a1 64))))))) else (some false)) else (none)))))) = some r := by rw [if_pos rfl] at H; exact H
    clear H
    have H := H1
    clear H1
    replace H := Option.bind_eq_some_iff.mp H
    obtain ⟨⟨t116, t117⟩, A50, H⟩ := H
    replace H : ((num_Do.f k 10 t116 (wrap64 (Int.tmod a1 64))).bind fun bt118 => ((num_Do.f k 10 a0 (wrap64 (Int.tmod a1 64))).bind fun bt120 => ((num_Do.f k 9 bt120.1 (wrap64 (Int.tmod a1 64))).bind fun bt122 => (if 0 ≤ (IntKind.u64.wrap (wrap64 (Int.tmod a1 64))) then (if (IntKind.u64.wrap (bt118.1)) = (Go.bits .and .u64 (IntKind.u64.wrap (a0)) (shr .u64 18446744073709551615 (IntKind.u64.wrap (wrap64 (Int.tmod a1 64))))) then (some ((IntKind.u64.wrap (bt122.1)) == (Go.bits .and .u64 (IntKind.u64.wrap (a0)) (shl .u64 18446744073709551615 (IntKind.u64.wrap (wrap64 (Int.tmod a1 64))))))) else (some false)) else (none))))) = some r := H
    have A5 := Aside0.mk A50
    clear A50
    replace H := Option.bind_eq_some_iff.mp H
    obtain ⟨⟨t118, t119⟩, A60, H⟩ := H
    replace H : ((num_Do.f k 10 a0 (wrap64 (Int.tmod a1 64))).bind fun bt120 => ((num_Do.f k 9 bt120.1 (wrap64 (Int.tmod a1 64))).bind fun bt122 => (if 0 ≤ (IntKind.u64.wrap (wrap64 (Int.tmod a1 64))) then (if (IntKind.u64.wrap (t118)) = (Go.bits .and .u64 (IntKind.u64.wrap (a0)) (shr .u64 18446744073709551615 (IntKind.u64.wrap (wrap64 (Int.tmod a1 64))))) then (some ((IntKind.u64.wrap (bt122.1)) == (Go.bits .and .u64 (IntKind.u64.wrap (a0)) (shl .u64 18446744073709551615 (IntKind.u64.wrap (wrap64 (Int.tmod a1 64))))))) else (some false)) else (none)))) = some r := H
    have A6 := Aside0.mk A60
    clear A60
    replace H := Option.bind_eq_some_iff.mp H
    obtain ⟨⟨t120, t121⟩, A70, H⟩ := H
    replace H : ((num_Do.f k 9 t120 (wrap64 (Int.tmod a1 64))).bind fun bt122 => (if 0 ≤ (IntKind.u64.wrap (wrap64 (Int.tmod a1 64))) then (if (IntKind.u64.wrap (t118)) = (Go.bits .and .u64 (IntKind.u64.wrap (a0)) (shr .u64 18446744073709551615 (IntKind.u64.wrap (wrap64 (Int.tmod a1 64))))) then (some ((IntKind.u64.wrap (bt122.1)) == (Go.bits .and .u64 (IntKind.u64.wrap (a0)) (shl .u64 18446744073709551615 (IntKind.u64.wrap (wrap64 (Int.tmod a1 64))))))) else (some false)) else (none))) = some r := H
    have A7 := Aside0.mk A70
    clear A70
    replace H := Option.bind_eq_some_iff.mp H
    obtain ⟨⟨t122, t123⟩, A80, H⟩ := H
    replace H : (if 0 ≤ (IntKind.u64.wrap (wrap64 (Int.tmod a1 64))) then (if (IntKind.u64.wrap (t118)) = (Go.bits .and .u64 (IntKind.u64.wrap (a0)) (shr .u64 18446744073709551615 (IntKind.u64.wrap (wrap64 (Int.tmod a1 64))))) then (some ((IntKind.u64.wrap (t122)) == (Go.bits .and .u64 (IntKind.u64.wrap (a0)) (shl .u64 18446744073709551615 (IntKind.u64.wrap (wrap64 (Int.tmod a1 64))))))) else (some false)) else (none)) = some r := H
    have A8 := Aside0.mk A80
    clear A80
    obtain ⟨ji9, hji9⟩ : ∃ j_ : Int, (IntKind.u64.wrap (wrap64 (Int.tmod a1 64))) = j_ := ⟨_, rfl⟩
    replace H : (if 0 ≤ (ji9) then (if (IntKind.u64.wrap (t118)) = (Go.bits .and .u64 (IntKind.u64.wrap (a0)) (shr .u64 18446744073709551615 (ji9))) then (some ((IntKind.u64.wrap (t122)) == (Go.bits .and .u64 (IntKind.u64.wrap (a0)) (shl .u64 18446744073709551615 (ji9))))) else (some false)) else (none)) = some r := by first | (rw [hji9] at H; exact H) | (simp only [hji9] at H ⊢; exact H)
    (try rw [hji9] at A3)
    (try rw [hji9] at A5)
    (try rw [hji9] at A6)
    (try rw [hji9] at A7)
    (try rw [hji9] at A8)
    by_cases c10 : 0 ≤ (ji9)
    · rw [if_pos c10] at H
      have c10b0 := eq_true c10
      have c10b1 : decide (0 ≤ (ji9)) = true := decide_eq_true c10
      clear c10
      obtain ⟨ji11, hji11⟩ : ∃ j_ : Int, (shr .u64 18446744073709551615 (ji9)) = j_ := ⟨_, rfl⟩
      replace H : (if (IntKind.u64.wrap (t118)) = (Go.bits .and .u64 (IntKind.u64.wrap (a0)) (ji11)) then (some ((IntKind.u64.wrap (t122)) == (Go.bits .and .u64 (IntKind.u64.wrap (a0)) (shl .u64 18446744073709551615 (ji9))))) else (some false)) = some r := by first | (rw [hji11] at H; exact H) | (simp only [hji11] at H ⊢; exact H)
      (try rw [hji11] at A3)
      (try rw [hji11] at A5)
      (try rw [hji11] at A6)
      (try rw [hji11] at A7)
      (try rw [hji11] at A8)
      have hji11_ : (18446744073709551615 / 2 ^ min (ji9).toNat 64) = ji11 := hji11
      have hji11z : (ji9) ≤ 64 → (18446744073709551615 / 2 ^ (ji9).toNat) = ji11 := shr_small hji11
      by_cases c12 : (IntKind.u64.wrap (t118)) = (Go.bits .and .u64 (IntKind.u64.wrap (a0)) (ji11))
      · rw [if_pos c12] at H
        have c12b0 : ((IntKind.u64.wrap (t118)) == (Go.bits .and .u64 (IntKind.u64.wrap (a0)) (ji11))) = true := beq_iff_eq.mpr c12
        have c12b1 : ((IntKind.u64.wrap (t118)) != (Go.bits .and .u64 (IntKind.u64.wrap (a0)) (ji11))) = false := bne_eq_false_iff_eq.mpr c12
        clear c12
        have c13b0 := eq_true (of_decide_eq_true (by first | (with_reducible assumption) | assumption) : 0 ≤ (ji9))
        obtain ⟨ji14, hji14⟩ : ∃ j_ : Int, (shl .u64 18446744073709551615 (ji9)) = j_ := ⟨_, rfl⟩
        replace H : (some ((IntKind.u64.wrap (t122)) == (Go.bits .and .u64 (IntKind.u64.wrap (a0)) (ji14)))) = some r := by first | (rw [hji14] at H; exact H) | (simp only [hji14] at H ⊢; exact H)
        (try rw [hji14] at A3)
        (try rw [hji14] at A5)
        (try rw [hji14] at A6)
        (try rw [hji14] at A7)
        (try rw [hji14] at A8)
        have hji14_ : (IntKind.u64.wrap (18446744073709551615 * 2 ^ min (ji9).toNat 64)) = ji14 := hji14
        have hji14z : (ji9) ≤ 64 → (IntKind.u64.wrap (18446744073709551615 * 2 ^ (ji9).toNat)) = ji14 := shl_small hji14
        obtain rfl := Option.some.inj H
        go_enter Try.func6, Try.ntmps6
        go_wp2_with (first | ((with_reducible refine gate_callee (f := 9) rfl ?_); refine goesL_ (some 15) rfl rfl Try.func9 (by kernel_rfl) rfl #[] rfl (by (try simp only [List.map_toArray, List.map_cons, List.map_nil]); first | done | rfl | (simp only [List.length_drop, List.length_take]; rfl)) ?_; (with_reducible refine (selkielaw02_alive.calls k  true _ A3.out).mono ?_); rintro e w' ⟨rfl, ⟨nd, rfl⟩⟩; refine ⟨_, rfl, ?_⟩) | ((with_reducible refine gate_callee (f := 10) rfl ?_); refine goesL_ (some 23) rfl rfl Try.func10 (by kernel_rfl) rfl #[.int .i64 9, .int .i64 a0, .int .i64 (wrap64 (Int.tmod a1 64))] rfl (by (try simp only [List.map_toArray, List.map_cons, List.map_nil]); first | done | rfl | (simp only [List.length_drop, List.length_take]; rfl)) ?_; (with_reducible refine (num_Do.calls k 9 a0 (wrap64 (Int.tmod a1 64)) t116 t117 _ A5.out).mono ?_); rintro e w' ⟨rfl, ⟨nd, rfl⟩⟩; refine ⟨_, rfl, ?_⟩) | ((with_reducible refine gate_callee (f := 10) rfl ?_); refine goesL_ (some 29) rfl rfl Try.func10 (by kernel_rfl) rfl #[.int .i64 10, .int .i64 t116, .int .i64 (wrap64 (Int.tmod a1 64))] rfl (by (try simp only [List.map_toArray, List.map_cons, List.map_nil]); first | done | rfl | (simp only [List.length_drop, List.length_take]; rfl)) ?_; (with_reducible refine (num_Do.calls k 10 t116 (wrap64 (Int.tmod a1 64)) t118 t119 _ A6.out).mono ?_); rintro e w' ⟨rfl, ⟨nd, rfl⟩⟩; refine ⟨_, rfl, ?_⟩) | ((with_reducible refine gate_callee (f := 10) rfl ?_); refine goesL_ (some 35) rfl rfl Try.func10 (by kernel_rfl) rfl #[.int .i64 10, .int .i64 a0, .int .i64 (wrap64 (Int.tmod a1 64))] rfl (by (try simp only [List.map_toArray, List.map_cons, List.map_nil]); first | done | rfl | (simp only [List.length_drop, List.length_take]; rfl)) ?_; (with_reducible refine (num_Do.calls k 10 a0 (wrap64 (Int.tmod a1 64)) t120 t121 _ A7.out).mono ?_); rintro e w' ⟨rfl, ⟨nd, rfl⟩⟩; refine ⟨_, rfl, ?_⟩) | ((with_reducible refine gate_callee (f := 10) rfl ?_); refine goesL_ (some 41) rfl rfl Try.func10 (by kernel_rfl) rfl #[.int .i64 9, .int .i64 t120, .int .i64 (wrap64 (Int.tmod a1 64))] rfl (by (try simp only [List.map_toArray, List.map_cons, List.map_nil]); first | done | rfl | (simp only [List.length_drop, List.length_take]; rfl)) ?_; (with_reducible refine (num_Do.calls k 9 t120 (wrap64 (Int.tmod a1 64)) t122 t123 _ A8.out).mono ?_); rintro e w' ⟨rfl, ⟨nd, rfl⟩⟩; refine ⟨_, rfl, ?_⟩))
        go_ret
        exact ⟨by first | rfl | (simp; done) | (simp only [← hji9, ← hji11, ← hji14] <;> (first | rfl | simp)) | (simp [*]; done), by repeat (first | exact Drawn0.refl _ | apply Drawn0.step)⟩
      · rw [if_neg c12] at H
        have c12b0 : ((IntKind.u64.wrap (t118)) == (Go.bits .and .u64 (IntKind.u64.wrap (a0)) (ji11))) = false := beq_eq_false_iff_ne.mpr c12
        have c12b1 : ((IntKind.u64.wrap (t118)) != (Go.bits .and .u64 (IntKind.u64.wrap (a0)) (ji11))) = true := bne_iff_ne.mpr c12
        obtain rfl := Option.some.inj H
        go_enter Try.func6, Try.ntmps6
        go_wp2_with (first | ((with_reducible refine gate_callee (f := 9) rfl ?_); refine goesL_ (some 15) rfl rfl Try.func9 (by kernel_rfl) rfl #[] rfl (by (try simp only [List.map_toArray, List.map_cons, List.map_nil]); first | done | rfl | (simp only [List.length_drop, List.length_take]; rfl)) ?_; (with_reducible refine (selkielaw02_alive.calls k  true _ A3.out).mono ?_); rintro e w' ⟨rfl, ⟨nd, rfl⟩⟩; refine ⟨_, rfl, ?_⟩) | ((with_reducible refine gate_callee (f := 10) rfl ?_); refine goesL_ (some 23) rfl rfl Try.func10 (by kernel_rfl) rfl #[.int .i64 9, .int .i64 a0, .int .i64 (wrap64 (Int.tmod a1 64))] rfl (by (try simp only [List.map_toArray, List.map_cons, List.map_nil]); first | done | rfl | (simp only [List.length_drop, List.length_take]; rfl)) ?_; (with_reducible refine (num_Do.calls k 9 a0 (wrap64 (Int.tmod a1 64)) t116 t117 _ A5.out).mono ?_); rintro e w' ⟨rfl, ⟨nd, rfl⟩⟩; refine ⟨_, rfl, ?_⟩) | ((with_reducible refine gate_callee (f := 10) rfl ?_); refine goesL_ (some 29) rfl rfl Try.func10 (by kernel_rfl) rfl #[.int .i64 10, .int .i64 t116, .int .i64 (wrap64 (Int.tmod a1 64))] rfl (by (try simp only [List.map_toArray, List.map_cons, List.map_nil]); first | done | rfl | (simp only [List.length_drop, List.length_take]; rfl)) ?_; (with_reducible refine (num_Do.calls k 10 t116 (wrap64 (Int.tmod a1 64)) t118 t119 _ A6.out).mono ?_); rintro e w' ⟨rfl, ⟨nd, rfl⟩⟩; refine ⟨_, rfl, ?_⟩) | ((with_reducible refine gate_callee (f := 10) rfl ?_); refine goesL_ (some 35) rfl rfl Try.func10 (by kernel_rfl) rfl #[.int .i64 10, .int .i64 a0, .int .i64 (wrap64 (Int.tmod a1 64))] rfl (by (try simp only [List.map_toArray, List.map_cons, List.map_nil]); first | done | rfl | (simp only [List.length_drop, List.length_take]; rfl)) ?_; (with_reducible refine (num_Do.calls k 10 a0 (wrap64 (Int.tmod a1 64)) t120 t121 _ A7.out).mono ?_); rintro e w' ⟨rfl, ⟨nd, rfl⟩⟩; refine ⟨_, rfl, ?_⟩) | ((with_reducible refine gate_callee (f := 10) rfl ?_); refine goesL_ (some 41) rfl rfl Try.func10 (by kernel_rfl) rfl #[.int .i64 9, .int .i64 t120, .int .i64 (wrap64 (Int.tmod a1 64))] rfl (by (try simp only [List.map_toArray, List.map_cons, List.map_nil]); first | done | rfl | (simp only [List.length_drop, List.length_take]; rfl)) ?_; (with_reducible refine (num_Do.calls k 9 t120 (wrap64 (Int.tmod a1 64)) t122 t123 _ A8.out).mono ?_); rintro e w' ⟨rfl, ⟨nd, rfl⟩⟩; refine ⟨_, rfl, ?_⟩))
        go_ret
        exact ⟨by first | rfl | (simp; done) | (simp only [← hji9, ← hji11] <;> (first | rfl | simp)) | (simp [*]; done), by repeat (first | exact Drawn0.refl _ | apply Drawn0.step)⟩
    · rw [if_neg c10] at H
      exact absurd H (by simp)
  · replace c4 := Bool.eq_false_iff.mpr c4
    subst c4
    have H1 : (some false) = some r := by rw [if_neg (show ¬ (false = true) by decide)] at H; exact H
    clear H
    have H := H1
    clear H1
    obtain rfl := Option.some.inj H
    go_enter Try.func6, Try.ntmps6
    go_wp2_with (first | ((with_reducible refine gate_callee (f := 9) rfl ?_); refine goesL_ (some 15) rfl rfl Try.func9 (by kernel_rfl) rfl #[] rfl (by (try simp only [List.map_toArray, List.map_cons, List.map_nil]); first | done | rfl | (simp only [List.length_drop, List.length_take]; rfl)) ?_; (with_reducible refine (selkielaw02_alive.calls k  false _ A3.out).mono ?_); rintro e w' ⟨rfl, ⟨nd, rfl⟩⟩; refine ⟨_, rfl, ?_⟩))
    go_ret
    exact ⟨by first | rfl | (simp; done) | (simp [*]; done), by repeat (first | exact Drawn0.refl _ | apply Drawn0.step)⟩

/-- THE ONE PURE STATEMENT of selkielaw02_NumShifts: yours. -/
def selkielaw02_NumShifts.Pure : Prop := ∀ (a0 : Int) (a1 : Int), (Lit.int .i64 a0).wf = true → (Lit.int .u8 a1).wf = true → ∃ k, selkielaw02_NumShifts.f k a0 a1 = some true
theorem selkielaw02_NumShifts.walk (P : selkielaw02_NumShifts.Pure) (a0 : Int) (a1 : Int) (w : World) (w0 : (Lit.int .i64 a0).wf = true) (w1 : (Lit.int .u8 a1).wf = true) :
    Calls Try.prog 6 #[.int .i64 a0, .int .u8 a1] w fun e w' => e = .returned (.bool true) ∧ Below w.heap.size w w' := by
  obtain ⟨k, h⟩ := P a0 a1 w0 w1
  refine (selkielaw02_NumShifts.calls k a0 a1 true w h).mono ?_
  rintro e w' ⟨rfl, hd⟩
  exact ⟨rfl, hd.below⟩

end Go.Proofs.Ytgjiknglgchgkaa.PNumShifts
