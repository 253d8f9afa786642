-- printed by a call of the kit's print.py over several functions of this seat (wip/pr.sh)
import Derived.Test.YtpgpmldaggpciaaGreatDoorPAllx0
import Derived.Test.YtpgpmldaggpciaaGreatDoorPAllx6
namespace Go.Proofs.YtpgpmldaggpciaaGreatDoor.PAll
open Go.RowKit Go.Proofs.YtpgpmldaggpciaaGreatDoorW.PrintWords Go.Proofs.YtpgpmldaggpciaaGreatDoorW.PrintLast Go.Proofs.YtpgpmldaggpciaaGreatDoorW.PrintMore
attribute [local go_sem] max2_int min2_int max_two min_two max_three min_three max_four min_four   -- for this text's walks alone
set_option linter.unusedVariables false
set_option linter.unusedSimpArgs false

/-! ### selkieref02_bits: function 52 -/
def selkieref02_bits.l0 : Nat → Int → Int → Int → Int → Int → Option (Int)
  | 0, _, _, _, _, _ => none
  | k + 1, x0, x1, x2, x7, x8 => if x8 < 64 then ((selkieref02_bit.f k x1 x8).bind fun t174 => ((selkieref02_bit.f k (IntKind.u64.wrap (x2)) x8).bind fun t175 => (if x0 = 6 then (if t174 = true then (if t175 = true then ((selkieref02_power.f k x8).bind fun t176 => (selkieref02_bits.l0 k x0 x1 x2 (IntKind.u64.wrap (x7 + t176)) (wrap64 (x8 + 1)))) else (selkieref02_bits.l0 k x0 x1 x2 x7 (wrap64 (x8 + 1)))) else (selkieref02_bits.l0 k x0 x1 x2 x7 (wrap64 (x8 + 1)))) else (if x0 = 7 then (if t174 = true then ((selkieref02_power.f k x8).bind fun t177 => (selkieref02_bits.l0 k x0 x1 x2 (IntKind.u64.wrap (x7 + t177)) (wrap64 (x8 + 1)))) else (if t175 = true then ((selkieref02_power.f k x8).bind fun t178 => (selkieref02_bits.l0 k x0 x1 x2 (IntKind.u64.wrap (x7 + t178)) (wrap64 (x8 + 1)))) else (selkieref02_bits.l0 k x0 x1 x2 x7 (wrap64 (x8 + 1))))) else (if x0 = 8 then (if (t174 != t175) = true then ((selkieref02_power.f k x8).bind fun t179 => (selkieref02_bits.l0 k x0 x1 x2 (IntKind.u64.wrap (x7 + t179)) (wrap64 (x8 + 1)))) else (selkieref02_bits.l0 k x0 x1 x2 x7 (wrap64 (x8 + 1)))) else (if x0 = 9 then (if x2 > (-64) then (if x2 < 64 then ((selkieref02_bit.f k x1 (wrap64 (x8 - x2))).bind fun t180 => (if t180 = true then ((selkieref02_power.f k x8).bind fun t181 => (selkieref02_bits.l0 k x0 x1 x2 (IntKind.u64.wrap (x7 + t181)) (wrap64 (x8 + 1)))) else (selkieref02_bits.l0 k x0 x1 x2 x7 (wrap64 (x8 + 1))))) else (selkieref02_bits.l0 k x0 x1 x2 x7 (wrap64 (x8 + 1)))) else (selkieref02_bits.l0 k x0 x1 x2 x7 (wrap64 (x8 + 1)))) else (if x0 = 10 then (if x2 > (-64) then (if x2 < 64 then ((selkieref02_bit.f k x1 (wrap64 (x8 + x2))).bind fun t182 => (if t182 = true then ((selkieref02_power.f k x8).bind fun t183 => (selkieref02_bits.l0 k x0 x1 x2 (IntKind.u64.wrap (x7 + t183)) (wrap64 (x8 + 1)))) else (selkieref02_bits.l0 k x0 x1 x2 x7 (wrap64 (x8 + 1))))) else (selkieref02_bits.l0 k x0 x1 x2 x7 (wrap64 (x8 + 1)))) else (selkieref02_bits.l0 k x0 x1 x2 x7 (wrap64 (x8 + 1)))) else (selkieref02_bits.l0 k x0 x1 x2 x7 (wrap64 (x8 + 1)))))))))) else (some (wrap64 (x7)))
def selkieref02_bits.f (k : Nat) (a0 : Int) (a1 : Int) (a2 : Int) : Option (Int) := selkieref02_bits.l0 k a0 a1 a2 0 0
theorem selkieref02_bits.mono_l : ∀ k, (∀ y0 y1 y2 y3 y4, LeO (selkieref02_bits.l0 k y0 y1 y2 y3 y4) (selkieref02_bits.l0 (k + 1) y0 y1 y2 y3 y4))
  | 0 => fun _ _ _ _ _ r h => by simp [selkieref02_bits.l0] at h
  | k + 1 => by
    have ih0 := selkieref02_bits.mono_l k
    · intro y0 y1 y2 y3 y4
      unfold selkieref02_bits.l0
      repeat' first
      | (with_reducible exact ih0 _ _ _ _ _)
      | (with_reducible exact selkieref02_bit.mono _ _ _)
      | (with_reducible exact selkieref02_power.mono _ _)
      | (with_reducible exact LeO.refl _)
      | (with_reducible exact LeO.none _)
      | (with_reducible refine LeO.ite ?_ ?_)
      | (with_reducible refine LeO.bind ?_ (fun _ => ?_))
      | exact ih0 _ _ _ _ _
      | exact selkieref02_bit.mono _ _ _
      | exact selkieref02_power.mono _ _
      | exact LeO.none _
      | refine LeO.ite ?_ ?_
      | refine LeO.bind ?_ (fun _ => ?_)
theorem selkieref02_bits.mono : ∀ a0 a1 a2 k, LeO (selkieref02_bits.f k a0 a1 a2) (selkieref02_bits.f (k + 1) a0 a1 a2) := by
  intro a0 a1 a2 k
  have ih0 := selkieref02_bits.mono_l k
  unfold selkieref02_bits.f
  repeat' first
      | (with_reducible exact ih0 _ _ _ _ _)
      | (with_reducible exact selkieref02_bit.mono _ _ _)
      | (with_reducible exact selkieref02_power.mono _ _)
      | (with_reducible exact LeO.refl _)
      | (with_reducible exact LeO.none _)
      | (with_reducible refine LeO.ite ?_ ?_)
      | (with_reducible refine LeO.bind ?_ (fun _ => ?_))
      | exact ih0 _ _ _ _ _
      | exact selkieref02_bit.mono _ _ _
      | exact selkieref02_power.mono _ _
      | exact LeO.none _
      | refine LeO.ite ?_ ?_
      | refine LeO.bind ?_ (fun _ => ?_)
set_option maxHeartbeats 8000000 in
set_option maxRecDepth 100000 in
theorem selkieref02_bits.calls (k : Nat) (a0 : Int) (a1 : Int) (a2 : Int) (r : Int) (w : World) (h : selkieref02_bits.f k a0 a1 a2 = some r) :
    Calls Tryz.prog 52 #[.int .i64 a0, .int .u64 a1, .int .i64 a2] w fun e w' => e = .returned (.int .i64 r) ∧ Drawn0 w w' := by
  have H : (selkieref02_bits.l0 k a0 a1 a2 0 0) = some r := h
  clear h
  have H' := Aside0.mk H
  clear H
  go_enter Tryz.func52, Tryz.ntmps52
  go_wp2
  go_loopg [7, 8] k (fun kq v7 v8 w' => ∃ (x7_1 : Int) (x8_1 : Int), v7 = .int .u64 x7_1 ∧ v8 = .int .i64 x8_1 ∧ Aside0 (selkieref02_bits.l0 kq a0 a1 a2 x7_1 x8_1 = some r) ∧ Aside0 (kq ≤ k) ∧ Drawn0 w w')
  case atStart => exact ⟨(0), (0), (by first | rfl | (simp; done) | (simp [*]; done) | (simp; exact TabW.bclose _ _) | (simp; exact TabW.bclose2 _)), (by first | rfl | (simp; done) | (simp [*]; done) | (simp; exact TabW.bclose _ _) | (simp; exact TabW.bclose2 _)), H', ⟨Nat.le_refl _⟩, by repeat (first | exact Drawn0.refl _ | apply Drawn0.step)⟩
  case round =>
    clear H'
    try clear p2
    obtain ⟨x7_1, x8_1, rfl, rfl, HA, HK1, ⟨m1, rfl⟩⟩ := hrel
    cases gk with
    | zero => exact absurd HA.out (by simp [selkieref02_bits.l0])
    | succ k1 =>
      have H := HA.out
      clear HA
      simp only [selkieref02_bits.l0] at H
      by_cases c4 : x8_1 < 64
      · rw [if_pos c4] at H
        have c4b0 : decide (x8_1 < 64) = true := decide_eq_true c4
        clear c4
        replace H := Option.bind_eq_some_iff.mp H
        obtain ⟨t174, A50, H⟩ := H
        replace H : ((selkieref02_bit.f k1 (IntKind.u64.wrap (a2)) x8_1).bind fun t175 => (if a0 = 6 then (if t174 = true then (if t175 = true then ((selkieref02_power.f k1 x8_1).bind fun t176 => (selkieref02_bits.l0 k1 a0 a1 a2 (IntKind.u64.wrap (x7_1 + t176)) (wrap64 (x8_1 + 1)))) else (selkieref02_bits.l0 k1 a0 a1 a2 x7_1 (wrap64 (x8_1 + 1)))) else (selkieref02_bits.l0 k1 a0 a1 a2 x7_1 (wrap64 (x8_1 + 1)))) else (if a0 = 7 then (if t174 = true then ((selkieref02_power.f k1 x8_1).bind fun t177 => (selkieref02_bits.l0 k1 a0 a1 a2 (IntKind.u64.wrap (x7_1 + t177)) (wrap64 (x8_1 + 1)))) else (if t175 = true then ((selkieref02_power.f k1 x8_1).bind fun t178 => (selkieref02_bits.l0 k1 a0 a1 a2 (IntKind.u64.wrap (x7_1 + t178)) (wrap64 (x8_1 + 1)))) else (selkieref02_bits.l0 k1 a0 a1 a2 x7_1 (wrap64 (x8_1 + 1))))) else (if a0 = 8 then (if (t174 != t175) = true then ((selkieref02_power.f k1 x8_1).bind fun t179 => (selkieref02_bits.l0 k1 a0 a1 a2 (IntKind.u64.wrap (x7_1 + t179)) (wrap64 (x8_1 + 1)))) else (selkieref02_bits.l0 k1 a0 a1 a2 x7_1 (wrap64 (x8_1 + 1)))) else (if a0 = 9 then (if a2 > (-64) then (if a2 < 64 then ((selkieref02_bit.f k1 a1 (wrap64 (x8_1 - a2))).bind fun t180 => (if t180 = true then ((selkieref02_power.f k1 x8_1).bind fun t181 => (selkieref02_bits.l0 k1 a0 a1 a2 (IntKind.u64.wrap (x7_1 + t181)) (wrap64 (x8_1 + 1)))) else (selkieref02_bits.l0 k1 a0 a1 a2 x7_1 (wrap64 (x8_1 + 1))))) else (selkieref02_bits.l0 k1 a0 a1 a2 x7_1 (wrap64 (x8_1 + 1)))) else (selkieref02_bits.l0 k1 a0 a1 a2 x7_1 (wrap64 (x8_1 + 1)))) else (if a0 = 10 then (if a2 > (-64) then (if a2 < 64 then ((selkieref02_bit.f k1 a1 (wrap64 (x8_1 + a2))).bind fun t182 => (if t182 = true then ((selkieref02_power.f k1 x8_1).bind fun t183 => (selkieref02_bits.l0 k1 a0 a1 a2 (IntKind.u64.wrap (x7_1 + t183)) (wrap64 (x8_1 + 1)))) else (selkieref02_bits.l0 k1 a0 a1 a2 x7_1 (wrap64 (x8_1 + 1))))) else (selkieref02_bits.l0 k1 a0 a1 a2 x7_1 (wrap64 (x8_1 + 1)))) else (selkieref02_bits.l0 k1 a0 a1 a2 x7_1 (wrap64 (x8_1 + 1)))) else (selkieref02_bits.l0 k1 a0 a1 a2 x7_1 (wrap64 (x8_1 + 1))))))))) = some r := H
        have A5 := Aside0.mk A50
        clear A50
        replace H := Option.bind_eq_some_iff.mp H
        obtain ⟨t175, A60, H⟩ := H
        replace H : (if a0 = 6 then (if t174 = true then (if t175 = true then ((selkieref02_power.f k1 x8_1).bind fun t176 => (selkieref02_bits.l0 k1 a0 a1 a2 (IntKind.u64.wrap (x7_1 + t176)) (wrap64 (x8_1 + 1)))) else (selkieref02_bits.l0 k1 a0 a1 a2 x7_1 (wrap64 (x8_1 + 1)))) else (selkieref02_bits.l0 k1 a0 a1 a2 x7_1 (wrap64 (x8_1 + 1)))) else (if a0 = 7 then (if t174 = true then ((selkieref02_power.f k1 x8_1).bind fun t177 => (selkieref02_bits.l0 k1 a0 a1 a2 (IntKind.u64.wrap (x7_1 + t177)) (wrap64 (x8_1 + 1)))) else (if t175 = true then ((selkieref02_power.f k1 x8_1).bind fun t178 => (selkieref02_bits.l0 k1 a0 a1 a2 (IntKind.u64.wrap (x7_1 + t178)) (wrap64 (x8_1 + 1)))) else (selkieref02_bits.l0 k1 a0 a1 a2 x7_1 (wrap64 (x8_1 + 1))))) else (if a0 = 8 then (if (t174 != t175) = true then ((selkieref02_power.f k1 x8_1).bind fun t179 => (selkieref02_bits.l0 k1 a0 a1 a2 (IntKind.u64.wrap (x7_1 + t179)) (wrap64 (x8_1 + 1)))) else (selkieref02_bits.l0 k1 a0 a1 a2 x7_1 (wrap64 (x8_1 + 1)))) else (if a0 = 9 then (if a2 > (-64) then (if a2 < 64 then ((selkieref02_bit.f k1 a1 (wrap64 (x8_1 - a2))).bind fun t180 => (if t180 = true then ((selkieref02_power.f k1 x8_1).bind fun t181 => (selkieref02_bits.l0 k1 a0 a1 a2 (IntKind.u64.wrap (x7_1 + t181)) (wrap64 (x8_1 + 1)))) else (selkieref02_bits.l0 k1 a0 a1 a2 x7_1 (wrap64 (x8_1 + 1))))) else (selkieref02_bits.l0 k1 a0 a1 a2 x7_1 (wrap64 (x8_1 + 1)))) else (selkieref02_bits.l0 k1 a0 a1 a2 x7_1 (wrap64 (x8_1 + 1)))) else (if a0 = 10 then (if a2 > (-64) then (if a2 < 64 then ((selkieref02_bit.f k1 a1 (wrap64 (x8_1 + a2))).bind fun t182 => (if t182 = true then ((selkieref02_power.f k1 x8_1).bind fun t183 => (selkieref02_bits.l0 k1 a0 a1 a2 (IntKind.u64.wrap (x7_1 + t183)) (wrap64 (x8_1 + 1)))) else (selkieref02_bits.l0 k1 a0 a1 a2 x7_1 (wrap64 (x8_1 + 1))))) else (selkieref02_bits.l0 k1 a0 a1 a2 x7_1 (wrap64 (x8_1 + 1)))) else (selkieref02_bits.l0 k1 a0 a1 a2 x7_1 (wrap64 (x8_1 + 1)))) else (selkieref02_bits.l0 k1 a0 a1 a2 x7_1 (wrap64 (x8_1 + 1)))))))) = some r := H
        have A6 := Aside0.mk A60
        clear A60
        by_cases c7 : a0 = 6
        · rw [if_pos c7] at H
          have c7b0 : (a0 == 6) = true := beq_iff_eq.mpr c7
          have c7b1 : (a0 != 6) = false := bne_eq_false_iff_eq.mpr c7
          clear c7
          by_cases c8 : t174 = true
          · subst c8
            have H1 : (if t175 = true then ((selkieref02_power.f k1 x8_1).bind fun t176 => (selkieref02_bits.l0 k1 a0 a1 a2 (IntKind.u64.wrap (x7_1 + t176)) (wrap64 (x8_1 + 1)))) else (selkieref02_bits.l0 k1 a0 a1 a2 x7_1 (wrap64 (x8_1 + 1)))) = some r := by rw [if_pos rfl] at H; exact H
            clear H
            have H := H1
            clear H1
            by_cases c9 : t175 = true
            · subst c9
              have H1 : ((selkieref02_power.f k1 x8_1).bind fun t176 => (selkieref02_bits.l0 k1 a0 a1 a2 (IntKind.u64.wrap (x7_1 + t176)) (wrap64 (x8_1 + 1)))) = some r := by rw [if_pos rfl] at H; exact H
              clear H
              have H := H1
              clear H1
              replace H := Option.bind_eq_some_iff.mp H
              obtain ⟨t176, A100, H⟩ := H
              replace H : (selkieref02_bits.l0 k1 a0 a1 a2 (IntKind.u64.wrap (x7_1 + t176)) (wrap64 (x8_1 + 1))) = some r := H
              have A10 := Aside0.mk A100
              clear A100
              have H' := Aside0.mk H
              clear H
              go_wp2_with (first | ((with_reducible refine gate_callee (f := 63) rfl ?_); refine goesL_ (some 18) rfl rfl Tryz.func63 (by kernel_rfl) rfl #[.int .u64 a1, .int .i64 x8_1] rfl (by (try simp only [List.map_toArray, List.map_cons, List.map_nil]); first | done | rfl | (simp only [List.length_drop, List.length_take]; rfl)) ?_; (with_reducible refine (selkieref02_bit.calls k1 a1 x8_1 true _ A5.out).mono ?_); rintro e w' ⟨rfl, ⟨nd, rfl⟩⟩; refine ⟨_, rfl, ?_⟩) | ((with_reducible refine gate_callee (f := 63) rfl ?_); refine goesL_ (some 22) rfl rfl Tryz.func63 (by kernel_rfl) rfl #[.int .u64 (IntKind.u64.wrap (a2)), .int .i64 x8_1] rfl (by (try simp only [List.map_toArray, List.map_cons, List.map_nil]); first | done | rfl | (simp only [List.length_drop, List.length_take]; rfl)) ?_; (with_reducible refine (selkieref02_bit.calls k1 (IntKind.u64.wrap (a2)) x8_1 true _ A6.out).mono ?_); rintro e w' ⟨rfl, ⟨nd, rfl⟩⟩; refine ⟨_, rfl, ?_⟩) | ((with_reducible refine gate_callee (f := 64) rfl ?_); refine goesL_ (some 74) rfl rfl Tryz.func64 (by kernel_rfl) rfl #[.int .i64 x8_1] rfl (by (try simp only [List.map_toArray, List.map_cons, List.map_nil]); first | done | rfl | (simp only [List.length_drop, List.length_take]; rfl)) ?_; (with_reducible refine (selkieref02_power.calls k1 x8_1 t176 _ A10.out).mono ?_); rintro e w' ⟨rfl, ⟨nd, rfl⟩⟩; refine ⟨_, rfl, ?_⟩))
              go_roundg k1
              case measure => have := HK1.out; omega
              case rel => exact ⟨(IntKind.u64.wrap (x7_1 + t176)), (wrap64 (x8_1 + 1)), (by first | rfl | (simp; done) | (simp [*]; done) | (simp; exact TabW.bclose _ _) | (simp; exact TabW.bclose2 _)), (by first | rfl | (simp; done) | (simp [*]; done) | (simp; exact TabW.bclose _ _) | (simp; exact TabW.bclose2 _)), H', ⟨by have := HK1.out; omega⟩, by repeat (first | exact Drawn0.refl _ | apply Drawn0.step)⟩
            · replace c9 := Bool.eq_false_iff.mpr c9
              subst c9
              have H1 : (selkieref02_bits.l0 k1 a0 a1 a2 x7_1 (wrap64 (x8_1 + 1))) = some r := by rw [if_neg (show ¬ (false = true) by decide)] at H; exact H
              clear H
              have H := H1
              clear H1
              have H' := Aside0.mk H
              clear H
              go_wp2_with (first | ((with_reducible refine gate_callee (f := 63) rfl ?_); refine goesL_ (some 18) rfl rfl Tryz.func63 (by kernel_rfl) rfl #[.int .u64 a1, .int .i64 x8_1] rfl (by (try simp only [List.map_toArray, List.map_cons, List.map_nil]); first | done | rfl | (simp only [List.length_drop, List.length_take]; rfl)) ?_; (with_reducible refine (selkieref02_bit.calls k1 a1 x8_1 true _ A5.out).mono ?_); rintro e w' ⟨rfl, ⟨nd, rfl⟩⟩; refine ⟨_, rfl, ?_⟩) | ((with_reducible refine gate_callee (f := 63) rfl ?_); refine goesL_ (some 22) rfl rfl Tryz.func63 (by kernel_rfl) rfl #[.int .u64 (IntKind.u64.wrap (a2)), .int .i64 x8_1] rfl (by (try simp only [List.map_toArray, List.map_cons, List.map_nil]); first | done | rfl | (simp only [List.length_drop, List.length_take]; rfl)) ?_; (with_reducible refine (selkieref02_bit.calls k1 (IntKind.u64.wrap (a2)) x8_1 false _ A6.out).mono ?_); rintro e w' ⟨rfl, ⟨nd, rfl⟩⟩; refine ⟨_, rfl, ?_⟩))
              go_roundg k1
              case measure => have := HK1.out; omega
              case rel => exact ⟨(x7_1), (wrap64 (x8_1 + 1)), (by first | rfl | (simp; done) | (simp [*]; done) | (simp; exact TabW.bclose _ _) | (simp; exact TabW.bclose2 _)), (by first | rfl | (simp; done) | (simp [*]; done) | (simp; exact TabW.bclose _ _) | (simp; exact TabW.bclose2 _)), H', ⟨by have := HK1.out; omega⟩, by repeat (first | exact Drawn0.refl _ | apply Drawn0.step)⟩
          · replace c8 := Bool.eq_false_iff.mpr c8
            subst c8
            have H1 : (selkieref02_bits.l0 k1 a0 a1 a2 x7_1 (wrap64 (x8_1 + 1))) = some r := by rw [if_neg (show ¬ (false = true) by decide)] at H; exact H
            clear H
            have H := H1
            clear H1
            have H' := Aside0.mk H
            clear H
            go_wp2_with (first | ((with_reducible refine gate_callee (f := 63) rfl ?_); refine goesL_ (some 18) rfl rfl Tryz.func63 (by kernel_rfl) rfl #[.int .u64 a1, .int .i64 x8_1] rfl (by (try simp only [List.map_toArray, List.map_cons, List.map_nil]); first | done | rfl | (simp only [List.length_drop, List.length_take]; rfl)) ?_; (with_reducible refine (selkieref02_bit.calls k1 a1 x8_1 false _ A5.out).mono ?_); rintro e w' ⟨rfl, ⟨nd, rfl⟩⟩; refine ⟨_, rfl, ?_⟩) | ((with_reducible refine gate_callee (f := 63) rfl ?_); refine goesL_ (some 22) rfl rfl Tryz.func63 (by kernel_rfl) rfl #[.int .u64 (IntKind.u64.wrap (a2)), .int .i64 x8_1] rfl (by (try simp only [List.map_toArray, List.map_cons, List.map_nil]); first | done | rfl | (simp only [List.length_drop, List.length_take]; rfl)) ?_; (with_reducible refine (selkieref02_bit.calls k1 (IntKind.u64.wrap (a2)) x8_1 t175 _ A6.out).mono ?_); rintro e w' ⟨rfl, ⟨nd, rfl⟩⟩; refine ⟨_, rfl, ?_⟩))
            go_roundg k1
            case measure => have := HK1.out; omega
            case rel => exact ⟨(x7_1), (wrap64 (x8_1 + 1)), (by first | rfl | (simp; done) | (simp [*]; done) | (simp; exact TabW.bclose _ _) | (simp; exact TabW.bclose2 _)), (by first | rfl | (simp; done) | (simp [*]; done) | (simp; exact TabW.bclose _ _) | (simp; exact TabW.bclose2 _)), H', ⟨by have := HK1.out; omega⟩, by repeat (first | exact Drawn0.refl _ | apply Drawn0.step)⟩
        · rw [if_neg c7] at H
          have c7b0 : (a0 == 6) = false := beq_eq_false_iff_ne.mpr c7
          have c7b1 : (a0 != 6) = true := bne_iff_ne.mpr c7
          by_cases c11 : a0 = 7
          · rw [if_pos c11] at H
            have c11b0 : (a0 == 7) = true := beq_iff_eq.mpr c11
            have c11b1 : (a0 != 7) = false := bne_eq_false_iff_eq.mpr c11
            clear c11
            by_cases c12 : t174 = true
            · subst c12
              have H1 : ((selkieref02_power.f k1 x8_1).bind fun t177 => (selkieref02_bits.l0 k1 a0 a1 a2 (IntKind.u64.wrap (x7_1 + t177)) (wrap64 (x8_1 + 1)))) = some r := by rw [if_pos rfl] at H; exact H
              clear H
              have H := H1
              clear H1
              replace H := Option.bind_eq_some_iff.mp H
              obtain ⟨t177, A130, H⟩ := H
              replace H : (selkieref02_bits.l0 k1 a0 a1 a2 (IntKind.u64.wrap (x7_1 + t177)) (wrap64 (x8_1 + 1))) = some r := H
              have A13 := Aside0.mk A130
              clear A130
              have H' := Aside0.mk H
              clear H
              go_wp2_with (first | ((with_reducible refine gate_callee (f := 63) rfl ?_); refine goesL_ (some 18) rfl rfl Tryz.func63 (by kernel_rfl) rfl #[.int .u64 a1, .int .i64 x8_1] rfl (by (try simp only [List.map_toArray, List.map_cons, List.map_nil]); first | done | rfl | (simp only [List.length_drop, List.length_take]; rfl)) ?_; (with_reducible refine (selkieref02_bit.calls k1 a1 x8_1 true _ A5.out).mono ?_); rintro e w' ⟨rfl, ⟨nd, rfl⟩⟩; refine ⟨_, rfl, ?_⟩) | ((with_reducible refine gate_callee (f := 63) rfl ?_); refine goesL_ (some 22) rfl rfl Tryz.func63 (by kernel_rfl) rfl #[.int .u64 (IntKind.u64.wrap (a2)), .int .i64 x8_1] rfl (by (try simp only [List.map_toArray, List.map_cons, List.map_nil]); first | done | rfl | (simp only [List.length_drop, List.length_take]; rfl)) ?_; (with_reducible refine (selkieref02_bit.calls k1 (IntKind.u64.wrap (a2)) x8_1 t175 _ A6.out).mono ?_); rintro e w' ⟨rfl, ⟨nd, rfl⟩⟩; refine ⟨_, rfl, ?_⟩) | ((with_reducible refine gate_callee (f := 64) rfl ?_); refine goesL_ (some 74) rfl rfl Tryz.func64 (by kernel_rfl) rfl #[.int .i64 x8_1] rfl (by (try simp only [List.map_toArray, List.map_cons, List.map_nil]); first | done | rfl | (simp only [List.length_drop, List.length_take]; rfl)) ?_; (with_reducible refine (selkieref02_power.calls k1 x8_1 t177 _ A13.out).mono ?_); rintro e w' ⟨rfl, ⟨nd, rfl⟩⟩; refine ⟨_, rfl, ?_⟩))
              go_roundg k1
              case measure => have := HK1.out; omega
              case rel => exact ⟨(IntKind.u64.wrap (x7_1 + t177)), (wrap64 (x8_1 + 1)), (by first | rfl | (simp; done) | (simp [*]; done) | (simp; exact TabW.bclose _ _) | (simp; exact TabW.bclose2 _)), (by first | rfl | (simp; done) | (simp [*]; done) | (simp; exact TabW.bclose _ _) | (simp; exact TabW.bclose2 _)), H', ⟨by have := HK1.out; omega⟩, by repeat (first | exact Drawn0.refl _ | apply Drawn0.step)⟩
            · replace c12 := Bool.eq_false_iff.mpr c12
              subst c12
              have H1 : (if t175 = true then ((selkieref02_power.f k1 x8_1).bind fun t178 => (selkieref02_bits.l0 k1 a0 a1 a2 (IntKind.u64.wrap (x7_1 + t178)) (wrap64 (x8_1 + 1)))) else (selkieref02_bits.l0 k1 a0 a1 a2 x7_1 (wrap64 (x8_1 + 1)))) = some r := by rw [if_neg (show ¬ (false = true) by decide)] at H; exact H
              clear H
              have H := H1
              clear H1
              by_cases c14 : t175 = true
              · subst c14
                have H1 : ((selkieref02_power.f k1 x8_1).bind fun t178 => (selkieref02_bits.l0 k1 a0 a1 a2 (IntKind.u64.wrap (x7_1 + t178)) (wrap64 (x8_1 + 1)))) = some r := by rw [if_pos rfl] at H; exact H
                clear H
                have H := H1
                clear H1
                replace H := Option.bind_eq_some_iff.mp H
                obtain ⟨t178, A150, H⟩ := H
                replace H : (selkieref02_bits.l0 k1 a0 a1 a2 (IntKind.u64.wrap (x7_1 + t178)) (wrap64 (x8_1 + 1))) = some r := H
                have A15 := Aside0.mk A150
                clear A150
                have H' := Aside0.mk H
                clear H
                go_wp2_with (first | ((with_reducible refine gate_callee (f := 63) rfl ?_); refine goesL_ (some 18) rfl rfl Tryz.func63 (by kernel_rfl) rfl #[.int .u64 a1, .int .i64 x8_1] rfl (by (try simp only [List.map_toArray, List.map_cons, List.map_nil]); first | done | rfl | (simp only [List.length_drop, List.length_take]; rfl)) ?_; (with_reducible refine (selkieref02_bit.calls k1 a1 x8_1 false _ A5.out).mono ?_); rintro e w' ⟨rfl, ⟨nd, rfl⟩⟩; refine ⟨_, rfl, ?_⟩) | ((with_reducible refine gate_callee (f := 63) rfl ?_); refine goesL_ (some 22) rfl rfl Tryz.func63 (by kernel_rfl) rfl #[.int .u64 (IntKind.u64.wrap (a2)), .int .i64 x8_1] rfl (by (try simp only [List.map_toArray, List.map_cons, List.map_nil]); first | done | rfl | (simp only [List.length_drop, List.length_take]; rfl)) ?_; (with_reducible refine (selkieref02_bit.calls k1 (IntKind.u64.wrap (a2)) x8_1 true _ A6.out).mono ?_); rintro e w' ⟨rfl, ⟨nd, rfl⟩⟩; refine ⟨_, rfl, ?_⟩) | ((with_reducible refine gate_callee (f := 64) rfl ?_); refine goesL_ (some 74) rfl rfl Tryz.func64 (by kernel_rfl) rfl #[.int .i64 x8_1] rfl (by (try simp only [List.map_toArray, List.map_cons, List.map_nil]); first | done | rfl | (simp only [List.length_drop, List.length_take]; rfl)) ?_; (with_reducible refine (selkieref02_power.calls k1 x8_1 t178 _ A15.out).mono ?_); rintro e w' ⟨rfl, ⟨nd, rfl⟩⟩; refine ⟨_, rfl, ?_⟩))
                go_roundg k1
                case measure => have := HK1.out; omega
                case rel => exact ⟨(IntKind.u64.wrap (x7_1 + t178)), (wrap64 (x8_1 + 1)), (by first | rfl | (simp; done) | (simp [*]; done) | (simp; exact TabW.bclose _ _) | (simp; exact TabW.bclose2 _)), (by first | rfl | (simp; done) | (simp [*]; done) | (simp; exact TabW.bclose _ _) | (simp; exact TabW.bclose2 _)), H', ⟨by have := HK1.out; omega⟩, by repeat (first | exact Drawn0.refl _ | apply Drawn0.step)⟩
              · replace c14 := Bool.eq_false_iff.mpr c14
                subst c14
                have H1 : (selkieref02_bits.l0 k1 a0 a1 a2 x7_1 (wrap64 (x8_1 + 1))) = some r := by rw [if_neg (show ¬ (false = true) by decide)] at H; exact H
                clear H
                have H := H1
                clear H1
                have H' := Aside0.mk H
                clear H
                go_wp2_with (first | ((with_reducible refine gate_callee (f := 63) rfl ?_); refine goesL_ (some 18) rfl rfl Tryz.func63 (by kernel_rfl) rfl #[.int .u64 a1, .int .i64 x8_1] rfl (by (try simp only [List.map_toArray, List.map_cons, List.map_nil]); first | done | rfl | (simp only [List.length_drop, List.length_take]; rfl)) ?_; (with_reducible refine (selkieref02_bit.calls k1 a1 x8_1 false _ A5.out).mono ?_); rintro e w' ⟨rfl, ⟨nd, rfl⟩⟩; refine ⟨_, rfl, ?_⟩) | ((with_reducible refine gate_callee (f := 63) rfl ?_); refine goesL_ (some 22) rfl rfl Tryz.func63 (by kernel_rfl) rfl #[.int .u64 (IntKind.u64.wrap (a2)), .int .i64 x8_1] rfl (by (try simp only [List.map_toArray, List.map_cons, List.map_nil]); first | done | rfl | (simp only [List.length_drop, List.length_take]; rfl)) ?_; (with_reducible refine (selkieref02_bit.calls k1 (IntKind.u64.wrap (a2)) x8_1 false _ A6.out).mono ?_); rintro e w' ⟨rfl, ⟨nd, rfl⟩⟩; refine ⟨_, rfl, ?_⟩))
                go_roundg k1
                case measure => have := HK1.out; omega
                case rel => exact ⟨(x7_1), (wrap64 (x8_1 + 1)), (by first | rfl | (simp; done) | (simp [*]; done) | (simp; exact TabW.bclose _ _) | (simp; exact TabW.bclose2 _)), (by first | rfl | (simp; done) | (simp [*]; done) | (simp; exact TabW.bclose _ _) | (simp; exact TabW.bclose2 _)), H', ⟨by have := HK1.out; omega⟩, by repeat (first | exact Drawn0.refl _ | apply Drawn0.step)⟩
          · rw [if_neg c11] at H
            have c11b0 : (a0 == 7) = false := beq_eq_false_iff_ne.mpr c11
            have c11b1 : (a0 != 7) = true := bne_iff_ne.mpr c11
            by_cases c16 : a0 = 8
            · rw [if_pos c16] at H
              have c16b0 : (a0 == 8) = true := beq_iff_eq.mpr c16
              have c16b1 : (a0 != 8) = false := bne_eq_false_iff_eq.mpr c16
              clear c16
              by_cases c17 : (t174 != t175) = true
              · rw [if_pos c17] at H
                have c17b0 : (t174 != t175) = true := c17
                (try (have c17b1 : decide (t174 = t175) = false := by simpa using c17))
                (try (have c17b2 : (t174 == t175) = false := by simpa using c17))
                (try (have c17b3 : ¬ (t174 = t175) := by simpa using c17))
                clear c17
                replace H := Option.bind_eq_some_iff.mp H
                obtain ⟨t179, A180, H⟩ := H
                replace H : (selkieref02_bits.l0 k1 a0 a1 a2 (IntKind.u64.wrap (x7_1 + t179)) (wrap64 (x8_1 + 1))) = some r := H
                have A18 := Aside0.mk A180
                clear A180
                have H' := Aside0.mk H
                clear H
                go_wp2_with (first | ((with_reducible refine gate_callee (f := 63) rfl ?_); refine goesL_ (some 18) rfl rfl Tryz.func63 (by kernel_rfl) rfl #[.int .u64 a1, .int .i64 x8_1] rfl (by (try simp only [List.map_toArray, List.map_cons, List.map_nil]); first | done | rfl | (simp only [List.length_drop, List.length_take]; rfl)) ?_; (with_reducible refine (selkieref02_bit.calls k1 a1 x8_1 t174 _ A5.out).mono ?_); rintro e w' ⟨rfl, ⟨nd, rfl⟩⟩; refine ⟨_, rfl, ?_⟩) | ((with_reducible refine gate_callee (f := 63) rfl ?_); refine goesL_ (some 22) rfl rfl Tryz.func63 (by kernel_rfl) rfl #[.int .u64 (IntKind.u64.wrap (a2)), .int .i64 x8_1] rfl (by (try simp only [List.map_toArray, List.map_cons, List.map_nil]); first | done | rfl | (simp only [List.length_drop, List.length_take]; rfl)) ?_; (with_reducible refine (selkieref02_bit.calls k1 (IntKind.u64.wrap (a2)) x8_1 t175 _ A6.out).mono ?_); rintro e w' ⟨rfl, ⟨nd, rfl⟩⟩; refine ⟨_, rfl, ?_⟩) | ((with_reducible refine gate_callee (f := 64) rfl ?_); refine goesL_ (some 74) rfl rfl Tryz.func64 (by kernel_rfl) rfl #[.int .i64 x8_1] rfl (by (try simp only [List.map_toArray, List.map_cons, List.map_nil]); first | done | rfl | (simp only [List.length_drop, List.length_take]; rfl)) ?_; (with_reducible refine (selkieref02_power.calls k1 x8_1 t179 _ A18.out).mono ?_); rintro e w' ⟨rfl, ⟨nd, rfl⟩⟩; refine ⟨_, rfl, ?_⟩))
                go_roundg k1
                case measure => have := HK1.out; omega
                case rel => exact ⟨(IntKind.u64.wrap (x7_1 + t179)), (wrap64 (x8_1 + 1)), (by first | rfl | (simp; done) | (simp [*]; done) | (simp; exact TabW.bclose _ _) | (simp; exact TabW.bclose2 _)), (by first | rfl | (simp; done) | (simp [*]; done) | (simp; exact TabW.bclose _ _) | (simp; exact TabW.bclose2 _)), H', ⟨by have := HK1.out; omega⟩, by repeat (first | exact Drawn0.refl _ | apply Drawn0.step)⟩
              · rw [if_neg c17] at H
                have c17b0 : (t174 != t175) = false := by simpa using c17
                (try (have c17b1 : decide (t174 = t175) = true := by simpa using c17))
                (try (have c17b2 : (t174 == t175) = true := by simpa using c17))
                clear c17
                have H' := Aside0.mk H
                clear H
                go_wp2_with (first | ((with_reducible refine gate_callee (f := 63) rfl ?_); refine goesL_ (some 18) rfl rfl Tryz.func63 (by kernel_rfl) rfl #[.int .u64 a1, .int .i64 x8_1] rfl (by (try simp only [List.map_toArray, List.map_cons, List.map_nil]); first | done | rfl | (simp only [List.length_drop, List.length_take]; rfl)) ?_; (with_reducible refine (selkieref02_bit.calls k1 a1 x8_1 t174 _ A5.out).mono ?_); rintro e w' ⟨rfl, ⟨nd, rfl⟩⟩; refine ⟨_, rfl, ?_⟩) | ((with_reducible refine gate_callee (f := 63) rfl ?_); refine goesL_ (some 22) rfl rfl Tryz.func63 (by kernel_rfl) rfl #[.int .u64 (IntKind.u64.wrap (a2)), .int .i64 x8_1] rfl (by (try simp only [List.map_toArray, List.map_cons, List.map_nil]); first | done | rfl | (simp only [List.length_drop, List.length_take]; rfl)) ?_; (with_reducible refine (selkieref02_bit.calls k1 (IntKind.u64.wrap (a2)) x8_1 t175 _ A6.out).mono ?_); rintro e w' ⟨rfl, ⟨nd, rfl⟩⟩; refine ⟨_, rfl, ?_⟩))
                go_roundg k1
                case measure => have := HK1.out; omega
                case rel => exact ⟨(x7_1), (wrap64 (x8_1 + 1)), (by first | rfl | (simp; done) | (simp [*]; done) | (simp; exact TabW.bclose _ _) | (simp; exact TabW.bclose2 _)), (by first | rfl | (simp; done) | (simp [*]; done) | (simp; exact TabW.bclose _ _) | (simp; exact TabW.bclose2 _)), H', ⟨by have := HK1.out; omega⟩, by repeat (first | exact Drawn0.refl _ | apply Drawn0.step)⟩
            · rw [if_neg c16] at H
              have c16b0 : (a0 == 8) = false := beq_eq_false_iff_ne.mpr c16
              have c16b1 : (a0 != 8) = true := bne_iff_ne.mpr c16
              by_cases c19 : a0 = 9
              · rw [if_pos c19] at H
                have c19b0 : (a0 == 9) = true := beq_iff_eq.mpr c19
                have c19b1 : (a0 != 9) = false := bne_eq_false_iff_eq.mpr c19
                clear c19
                by_cases c20 : a2 > (-64)
                · rw [if_pos c20] at H
                  have c20b0 : decide ((-64) < a2) = true := decide_eq_true c20
                  clear c20
                  by_cases c21 : a2 < 64
                  · rw [if_pos c21] at H
                    have c21b0 : decide (a2 < 64) = true := decide_eq_true c21
                    clear c21
                    replace H := Option.bind_eq_some_iff.mp H
                    obtain ⟨t180, A220, H⟩ := H
                    replace H : (if t180 = true then ((selkieref02_power.f k1 x8_1).bind fun t181 => (selkieref02_bits.l0 k1 a0 a1 a2 (IntKind.u64.wrap (x7_1 + t181)) (wrap64 (x8_1 + 1)))) else (selkieref02_bits.l0 k1 a0 a1 a2 x7_1 (wrap64 (x8_1 + 1)))) = some r := H
                    have A22 := Aside0.mk A220
                    clear A220
                    by_cases c23 : t180 = true
                    · subst c23
                      have H1 : ((selkieref02_power.f k1 x8_1).bind fun t181 => (selkieref02_bits.l0 k1 a0 a1 a2 (IntKind.u64.wrap (x7_1 + t181)) (wrap64 (x8_1 + 1)))) = some r := by rw [if_pos rfl] at H; exact H
                      clear H
                      have H := H1
                      clear H1
                      replace H := Option.bind_eq_some_iff.mp H
                      obtain ⟨t181, A240, H⟩ := H
                      replace H : (selkieref02_bits.l0 k1 a0 a1 a2 (IntKind.u64.wrap (x7_1 + t181)) (wrap64 (x8_1 + 1))) = some r := H
                      have A24 := Aside0.mk A240
                      clear A240
                      have H' := Aside0.mk H
                      clear H
                      go_wp2_with (first | ((with_reducible refine gate_callee (f := 63) rfl ?_); refine goesL_ (some 18) rfl rfl Tryz.func63 (by kernel_rfl) rfl #[.int .u64 a1, .int .i64 x8_1] rfl (by (try simp only [List.map_toArray, List.map_cons, List.map_nil]); first | done | rfl | (simp only [List.length_drop, List.length_take]; rfl)) ?_; (with_reducible refine (selkieref02_bit.calls k1 a1 x8_1 t174 _ A5.out).mono ?_); rintro e w' ⟨rfl, ⟨nd, rfl⟩⟩; refine ⟨_, rfl, ?_⟩) | ((with_reducible refine gate_callee (f := 63) rfl ?_); refine goesL_ (some 22) rfl rfl Tryz.func63 (by kernel_rfl) rfl #[.int .u64 (IntKind.u64.wrap (a2)), .int .i64 x8_1] rfl (by (try simp only [List.map_toArray, List.map_cons, List.map_nil]); first | done | rfl | (simp only [List.length_drop, List.length_take]; rfl)) ?_; (with_reducible refine (selkieref02_bit.calls k1 (IntKind.u64.wrap (a2)) x8_1 t175 _ A6.out).mono ?_); rintro e w' ⟨rfl, ⟨nd, rfl⟩⟩; refine ⟨_, rfl, ?_⟩) | (go_at_call 63; (with_reducible refine (selkieref02_bit.calls k1 a1 (wrap64 (x8_1 - a2)) true _ A22.out).mono ?_); rintro e w' ⟨rfl, ⟨nd, rfl⟩⟩) | ((with_reducible refine gate_callee (f := 64) rfl ?_); refine goesL_ (some 74) rfl rfl Tryz.func64 (by kernel_rfl) rfl #[.int .i64 x8_1] rfl (by (try simp only [List.map_toArray, List.map_cons, List.map_nil]); first | done | rfl | (simp only [List.length_drop, List.length_take]; rfl)) ?_; (with_reducible refine (selkieref02_power.calls k1 x8_1 t181 _ A24.out).mono ?_); rintro e w' ⟨rfl, ⟨nd, rfl⟩⟩; refine ⟨_, rfl, ?_⟩))
                      go_roundg k1
                      case measure => have := HK1.out; omega
                      case rel => exact ⟨(IntKind.u64.wrap (x7_1 + t181)), (wrap64 (x8_1 + 1)), (by first | rfl | (simp; done) | (simp [*]; done) | (simp; exact TabW.bclose _ _) | (simp; exact TabW.bclose2 _)), (by first | rfl | (simp; done) | (simp [*]; done) | (simp; exact TabW.bclose _ _) | (simp; exact TabW.bclose2 _)), H', ⟨by have := HK1.out; omega⟩, by repeat (first | exact Drawn0.refl _ | apply Drawn0.step)⟩
                    · replace c23 := Bool.eq_false_iff.mpr c23
                      subst c23
                      have H1 : (selkieref02_bits.l0 k1 a0 a1 a2 x7_1 (wrap64 (x8_1 + 1))) = some r := by rw [if_neg (show ¬ (false = true) by decide)] at H; exact H
                      clear H
                      have H := H1
                      clear H1
                      have H' := Aside0.mk H
                      clear H
                      go_wp2_with (first | ((with_reducible refine gate_callee (f := 63) rfl ?_); refine goesL_ (some 18) rfl rfl Tryz.func63 (by kernel_rfl) rfl #[.int .u64 a1, .int .i64 x8_1] rfl (by (try simp only [List.map_toArray, List.map_cons, List.map_nil]); first | done | rfl | (simp only [List.length_drop, List.length_take]; rfl)) ?_; (with_reducible refine (selkieref02_bit.calls k1 a1 x8_1 t174 _ A5.out).mono ?_); rintro e w' ⟨rfl, ⟨nd, rfl⟩⟩; refine ⟨_, rfl, ?_⟩) | ((with_reducible refine gate_callee (f := 63) rfl ?_); refine goesL_ (some 22) rfl rfl Tryz.func63 (by kernel_rfl) rfl #[.int .u64 (IntKind.u64.wrap (a2)), .int .i64 x8_1] rfl (by (try simp only [List.map_toArray, List.map_cons, List.map_nil]); first | done | rfl | (simp only [List.length_drop, List.length_take]; rfl)) ?_; (with_reducible refine (selkieref02_bit.calls k1 (IntKind.u64.wrap (a2)) x8_1 t175 _ A6.out).mono ?_); rintro e w' ⟨rfl, ⟨nd, rfl⟩⟩; refine ⟨_, rfl, ?_⟩) | (go_at_call 63; (with_reducible refine (selkieref02_bit.calls k1 a1 (wrap64 (x8_1 - a2)) false _ A22.out).mono ?_); rintro e w' ⟨rfl, ⟨nd, rfl⟩⟩))
                      go_roundg k1
                      case measure => have := HK1.out; omega
                      case rel => exact ⟨(x7_1), (wrap64 (x8_1 + 1)), (by first | rfl | (simp; done) | (simp [*]; done) | (simp; exact TabW.bclose _ _) | (simp; exact TabW.bclose2 _)), (by first | rfl | (simp; done) | (simp [*]; done) | (simp; exact TabW.bclose _ _) | (simp; exact TabW.bclose2 _)), H', ⟨by have := HK1.out; omega⟩, by repeat (first | exact Drawn0.refl _ | apply Drawn0.step)⟩
                  · rw [if_neg c21] at H
                    have c21b0 : decide (a2 < 64) = false := decide_eq_false c21
                    clear c21
                    have H' := Aside0.mk H
                    clear H
                    go_wp2_with (first | ((with_reducible refine gate_callee (f := 63) rfl ?_); refine goesL_ (some 18) rfl rfl Tryz.func63 (by kernel_rfl) rfl #[.int .u64 a1, .int .i64 x8_1] rfl (by (try simp only [List.map_toArray, List.map_cons, List.map_nil]); first | done | rfl | (simp only [List.length_drop, List.length_take]; rfl)) ?_; (with_reducible refine (selkieref02_bit.calls k1 a1 x8_1 t174 _ A5.out).mono ?_); rintro e w' ⟨rfl, ⟨nd, rfl⟩⟩; refine ⟨_, rfl, ?_⟩) | ((with_reducible refine gate_callee (f := 63) rfl ?_); refine goesL_ (some 22) rfl rfl Tryz.func63 (by kernel_rfl) rfl #[.int .u64 (IntKind.u64.wrap (a2)), .int .i64 x8_1] rfl (by (try simp only [List.map_toArray, List.map_cons, List.map_nil]); first | done | rfl | (simp only [List.length_drop, List.length_take]; rfl)) ?_; (with_reducible refine (selkieref02_bit.calls k1 (IntKind.u64.wrap (a2)) x8_1 t175 _ A6.out).mono ?_); rintro e w' ⟨rfl, ⟨nd, rfl⟩⟩; refine ⟨_, rfl, ?_⟩))
                    go_roundg k1
                    case measure => have := HK1.out; omega
                    case rel => exact ⟨(x7_1), (wrap64 (x8_1 + 1)), (by first | rfl | (simp; done) | (simp [*]; done) | (simp; exact TabW.bclose _ _) | (simp; exact TabW.bclose2 _)), (by first | rfl | (simp; done) | (simp [*]; done) | (simp; exact TabW.bclose _ _) | (simp; exact TabW.bclose2 _)), H', ⟨by have := HK1.out; omega⟩, by repeat (first | exact Drawn0.refl _ | apply Drawn0.step)⟩
                · rw [if_neg c20] at H
                  have c20b0 : decide ((-64) < a2) = false := decide_eq_false c20
                  clear c20
                  have H' := Aside0.mk H
                  clear H
                  go_wp2_with (first | ((with_reducible refine gate_callee (f := 63) rfl ?_); refine goesL_ (some 18) rfl rfl Tryz.func63 (by kernel_rfl) rfl #[.int .u64 a1, .int .i64 x8_1] rfl (by (try simp only [List.map_toArray, List.map_cons, List.map_nil]); first | done | rfl | (simp only [List.length_drop, List.length_take]; rfl)) ?_; (with_reducible refine (selkieref02_bit.calls k1 a1 x8_1 t174 _ A5.out).mono ?_); rintro e w' ⟨rfl, ⟨nd, rfl⟩⟩; refine ⟨_, rfl, ?_⟩) | ((with_reducible refine gate_callee (f := 63) rfl ?_); refine goesL_ (some 22) rfl rfl Tryz.func63 (by kernel_rfl) rfl #[.int .u64 (IntKind.u64.wrap (a2)), .int .i64 x8_1] rfl (by (try simp only [List.map_toArray, List.map_cons, List.map_nil]); first | done | rfl | (simp only [List.length_drop, List.length_take]; rfl)) ?_; (with_reducible refine (selkieref02_bit.calls k1 (IntKind.u64.wrap (a2)) x8_1 t175 _ A6.out).mono ?_); rintro e w' ⟨rfl, ⟨nd, rfl⟩⟩; refine ⟨_, rfl, ?_⟩))
                  go_roundg k1
                  case measure => have := HK1.out; omega
                  case rel => exact ⟨(x7_1), (wrap64 (x8_1 + 1)), (by first | rfl | (simp; done) | (simp [*]; done) | (simp; exact TabW.bclose _ _) | (simp; exact TabW.bclose2 _)), (by first | rfl | (simp; done) | (simp [*]; done) | (simp; exact TabW.bclose _ _) | (simp; exact TabW.bclose2 _)), H', ⟨by have := HK1.out; omega⟩, by repeat (first | exact Drawn0.refl _ | apply Drawn0.step)⟩
              · rw [if_neg c19] at H
                have c19b0 : (a0 == 9) = false := beq_eq_false_iff_ne.mpr c19
                have c19b1 : (a0 != 9) = true := bne_iff_ne.mpr c19
                by_cases c25 : a0 = 10
                · rw [if_pos c25] at H
                  have c25b0 : (a0 == 10) = true := beq_iff_eq.mpr c25
                  have c25b1 : (a0 != 10) = false := bne_eq_false_iff_eq.mpr c25
                  clear c25
                  by_cases c26 : a2 > (-64)
                  · rw [if_pos c26] at H
                    have c26b0 : decide ((-64) < a2) = true := decide_eq_true c26
                    clear c26
                    by_cases c27 : a2 < 64
                    · rw [if_pos c27] at H
                      have c27b0 : decide (a2 < 64) = true := decide_eq_true c27
                      clear c27
                      replace H := Option.bind_eq_some_iff.mp H
                      obtain ⟨t182, A280, H⟩ := H
                      replace H : (if t182 = true then ((selkieref02_power.f k1 x8_1).bind fun t183 => (selkieref02_bits.l0 k1 a0 a1 a2 (IntKind.u64.wrap (x7_1 + t183)) (wrap64 (x8_1 + 1)))) else (selkieref02_bits.l0 k1 a0 a1 a2 x7_1 (wrap64 (x8_1 + 1)))) = some r := H
                      have A28 := Aside0.mk A280
                      clear A280
                      by_cases c29 : t182 = true
                      · subst c29
                        have H1 : ((selkieref02_power.f k1 x8_1).bind fun t183 => (selkieref02_bits.l0 k1 a0 a1 a2 (IntKind.u64.wrap (x7_1 + t183)) (wrap64 (x8_1 + 1)))) = some r := by rw [if_pos rfl] at H; exact H
                        clear H
                        have H := H1
                        clear H1
                        replace H := Option.bind_eq_some_iff.mp H
                        obtain ⟨t183, A300, H⟩ := H
                        replace H : (selkieref02_bits.l0 k1 a0 a1 a2 (IntKind.u64.wrap (x7_1 + t183)) (wrap64 (x8_1 + 1))) = some r := H
                        have A30 := Aside0.mk A300
                        clear A300
                        have H' := Aside0.mk H
                        clear H
                        go_wp2_with (first | ((with_reducible refine gate_callee (f := 63) rfl ?_); refine goesL_ (some 18) rfl rfl Tryz.func63 (by kernel_rfl) rfl #[.int .u64 a1, .int .i64 x8_1] rfl (by (try simp only [List.map_toArray, List.map_cons, List.map_nil]); first | done | rfl | (simp only [List.length_drop, List.length_take]; rfl)) ?_; (with_reducible refine (selkieref02_bit.calls k1 a1 x8_1 t174 _ A5.out).mono ?_); rintro e w' ⟨rfl, ⟨nd, rfl⟩⟩; refine ⟨_, rfl, ?_⟩) | ((with_reducible refine gate_callee (f := 63) rfl ?_); refine goesL_ (some 22) rfl rfl Tryz.func63 (by kernel_rfl) rfl #[.int .u64 (IntKind.u64.wrap (a2)), .int .i64 x8_1] rfl (by (try simp only [List.map_toArray, List.map_cons, List.map_nil]); first | done | rfl | (simp only [List.length_drop, List.length_take]; rfl)) ?_; (with_reducible refine (selkieref02_bit.calls k1 (IntKind.u64.wrap (a2)) x8_1 t175 _ A6.out).mono ?_); rintro e w' ⟨rfl, ⟨nd, rfl⟩⟩; refine ⟨_, rfl, ?_⟩) | (go_at_call 63; (with_reducible refine (selkieref02_bit.calls k1 a1 (wrap64 (x8_1 + a2)) true _ A28.out).mono ?_); rintro e w' ⟨rfl, ⟨nd, rfl⟩⟩) | ((with_reducible refine gate_callee (f := 64) rfl ?_); refine goesL_ (some 74) rfl rfl Tryz.func64 (by kernel_rfl) rfl #[.int .i64 x8_1] rfl (by (try simp only [List.map_toArray, List.map_cons, List.map_nil]); first | done | rfl | (simp only [List.length_drop, List.length_take]; rfl)) ?_; (with_reducible refine (selkieref02_power.calls k1 x8_1 t183 _ A30.out).mono ?_); rintro e w' ⟨rfl, ⟨nd, rfl⟩⟩; refine ⟨_, rfl, ?_⟩))
                        go_roundg k1
                        case measure => have := HK1.out; omega
                        case rel => exact ⟨(IntKind.u64.wrap (x7_1 + t183)), (wrap64 (x8_1 + 1)), (by first | rfl | (simp; done) | (simp [*]; done) | (simp; exact TabW.bclose _ _) | (simp; exact TabW.bclose2 _)), (by first | rfl | (simp; done) | (simp [*]; done) | (simp; exact TabW.bclose _ _) | (simp; exact TabW.bclose2 _)), H', ⟨by have := HK1.out; omega⟩, by repeat (first | exact Drawn0.refl _ | apply Drawn0.step)⟩
                      · replace c29 := Bool.eq_false_iff.mpr c29
                        subst c29
                        have H1 : (selkieref02_bits.l0 k1 a0 a1 a2 x7_1 (wrap64 (x8_1 + 1))) = some r := by rw [if_neg (show ¬ (false = true) by decide)] at H; exact H
                        clear H
                        have H := H1
                        clear H1
                        have H' := Aside0.mk H
                        clear H
                        go_wp2_with (first | ((with_reducible refine gate_callee (f := 63) rfl ?_); refine goesL_ (some 18) rfl rfl Tryz.func63 (by kernel_rfl) rfl #[.int .u64 a1, .int .i64 x8_1] rfl (by (try simp only [List.map_toArray, List.map_cons, List.map_nil]); first | done | rfl | (simp only [List.length_drop, List.length_take]; rfl)) ?_; (with_reducible refine (selkieref02_bit.calls k1 a1 x8_1 t174 _ A5.out).mono ?_); rintro e w' ⟨rfl, ⟨nd, rfl⟩⟩; refine ⟨_, rfl, ?_⟩) | ((with_reducible refine gate_callee (f := 63) rfl ?_); refine goesL_ (some 22) rfl rfl Tryz.func63 (by kernel_rfl) rfl #[.int .u64 (IntKind.u64.wrap (a2)), .int .i64 x8_1] rfl (by (try simp only [List.map_toArray, List.map_cons, List.map_nil]); first | done | rfl | (simp only [List.length_drop, List.length_take]; rfl)) ?_; (with_reducible refine (selkieref02_bit.calls k1 (IntKind.u64.wrap (a2)) x8_1 t175 _ A6.out).mono ?_); rintro e w' ⟨rfl, ⟨nd, rfl⟩⟩; refine ⟨_, rfl, ?_⟩) | (go_at_call 63; (with_reducible refine (selkieref02_bit.calls k1 a1 (wrap64 (x8_1 + a2)) false _ A28.out).mono ?_); rintro e w' ⟨rfl, ⟨nd, rfl⟩⟩))
                        go_roundg k1
                        case measure => have := HK1.out; omega
                        case rel => exact ⟨(x7_1), (wrap64 (x8_1 + 1)), (by first | rfl | (simp; done) | (simp [*]; done) | (simp; exact TabW.bclose _ _) | (simp; exact TabW.bclose2 _)), (by first | rfl | (simp; done) | (simp [*]; done) | (simp; exact TabW.bclose _ _) | (simp; exact TabW.bclose2 _)), H', ⟨by have := HK1.out; omega⟩, by repeat (first | exact Drawn0.refl _ | apply Drawn0.step)⟩
                    · rw [if_neg c27] at H
                      have c27b0 : decide (a2 < 64) = false := decide_eq_false c27
                      clear c27
                      have H' := Aside0.mk H
                      clear H
                      go_wp2_with (first | ((with_reducible refine gate_callee (f := 63) rfl ?_); refine goesL_ (some 18) rfl rfl Tryz.func63 (by kernel_rfl) rfl #[.int .u64 a1, .int .i64 x8_1] rfl (by (try simp only [List.map_toArray, List.map_cons, List.map_nil]); first | done | rfl | (simp only [List.length_drop, List.length_take]; rfl)) ?_; (with_reducible refine (selkieref02_bit.calls k1 a1 x8_1 t174 _ A5.out).mono ?_); rintro e w' ⟨rfl, ⟨nd, rfl⟩⟩; refine ⟨_, rfl, ?_⟩) | ((with_reducible refine gate_callee (f := 63) rfl ?_); refine goesL_ (some 22) rfl rfl Tryz.func63 (by kernel_rfl) rfl #[.int .u64 (IntKind.u64.wrap (a2)), .int .i64 x8_1] rfl (by (try simp only [List.map_toArray, List.map_cons, List.map_nil]); first | done | rfl | (simp only [List.length_drop, List.length_take]; rfl)) ?_; (with_reducible refine (selkieref02_bit.calls k1 (IntKind.u64.wrap (a2)) x8_1 t175 _ A6.out).mono ?_); rintro e w' ⟨rfl, ⟨nd, rfl⟩⟩; refine ⟨_, rfl, ?_⟩))
                      go_roundg k1
                      case measure => have := HK1.out; omega
                      case rel => exact ⟨(x7_1), (wrap64 (x8_1 + 1)), (by first | rfl | (simp; done) | (simp [*]; done) | (simp; exact TabW.bclose _ _) | (simp; exact TabW.bclose2 _)), (by first | rfl | (simp; done) | (simp [*]; done) | (simp; exact TabW.bclose _ _) | (simp; exact TabW.bclose2 _)), H', ⟨by have := HK1.out; omega⟩, by repeat (first | exact Drawn0.refl _ | apply Drawn0.step)⟩
                  · rw [if_neg c26] at H
                    have c26b0 : decide ((-64) < a2) = false := decide_eq_false c26
                    clear c26
                    have H' := Aside0.mk H
                    clear H
                    go_wp2_with (first | ((with_reducible refine gate_callee (f := 63) rfl ?_); refine goesL_ (some 18) rfl rfl Tryz.func63 (by kernel_rfl) rfl #[.int .u64 a1, .int .i64 x8_1] rfl (by (try simp only [List.map_toArray, List.map_cons, List.map_nil]); first | done | rfl | (simp only [List.length_drop, List.length_take]; rfl)) ?_; (with_reducible refine (selkieref02_bit.calls k1 a1 x8_1 t174 _ A5.out).mono ?_); rintro e w' ⟨rfl, ⟨nd, rfl⟩⟩; refine ⟨_, rfl, ?_⟩) | ((with_reducible refine gate_callee (f := 63) rfl ?_); refine goesL_ (some 22) rfl rfl Tryz.func63 (by kernel_rfl) rfl #[.int .u64 (IntKind.u64.wrap (a2)), .int .i64 x8_1] rfl (by (try simp only [List.map_toArray, List.map_cons, List.map_nil]); first | done | rfl | (simp only [List.length_drop, List.length_take]; rfl)) ?_; (with_reducible refine (selkieref02_bit.calls k1 (IntKind.u64.wrap (a2)) x8_1 t175 _ A6.out).mono ?_); rintro e w' ⟨rfl, ⟨nd, rfl⟩⟩; refine ⟨_, rfl, ?_⟩))
                    go_roundg k1
                    case measure => have := HK1.out; omega
                    case rel => exact ⟨(x7_1), (wrap64 (x8_1 + 1)), (by first | rfl | (simp; done) | (simp [*]; done) | (simp; exact TabW.bclose _ _) | (simp; exact TabW.bclose2 _)), (by first | rfl | (simp; done) | (simp [*]; done) | (simp; exact TabW.bclose _ _) | (simp; exact TabW.bclose2 _)), H', ⟨by have := HK1.out; omega⟩, by repeat (first | exact Drawn0.refl _ | apply Drawn0.step)⟩
                · rw [if_neg c25] at H
                  have c25b0 : (a0 == 10) = false := beq_eq_false_iff_ne.mpr c25
                  have c25b1 : (a0 != 10) = true := bne_iff_ne.mpr c25
                  have H' := Aside0.mk H
                  clear H
                  go_wp2_with (first | ((with_reducible refine gate_callee (f := 63) rfl ?_); refine goesL_ (some 18) rfl rfl Tryz.func63 (by kernel_rfl) rfl #[.int .u64 a1, .int .i64 x8_1] rfl (by (try simp only [List.map_toArray, List.map_cons, List.map_nil]); first | done | rfl | (simp only [List.length_drop, List.length_take]; rfl)) ?_; (with_reducible refine (selkieref02_bit.calls k1 a1 x8_1 t174 _ A5.out).mono ?_); rintro e w' ⟨rfl, ⟨nd, rfl⟩⟩; refine ⟨_, rfl, ?_⟩) | ((with_reducible refine gate_callee (f := 63) rfl ?_); refine goesL_ (some 22) rfl rfl Tryz.func63 (by kernel_rfl) rfl #[.int .u64 (IntKind.u64.wrap (a2)), .int .i64 x8_1] rfl (by (try simp only [List.map_toArray, List.map_cons, List.map_nil]); first | done | rfl | (simp only [List.length_drop, List.length_take]; rfl)) ?_; (with_reducible refine (selkieref02_bit.calls k1 (IntKind.u64.wrap (a2)) x8_1 t175 _ A6.out).mono ?_); rintro e w' ⟨rfl, ⟨nd, rfl⟩⟩; refine ⟨_, rfl, ?_⟩))
                  go_roundg k1
                  case measure => have := HK1.out; omega
                  case rel => exact ⟨(x7_1), (wrap64 (x8_1 + 1)), (by first | rfl | (simp; done) | (simp [*]; done) | (simp; exact TabW.bclose _ _) | (simp; exact TabW.bclose2 _)), (by first | rfl | (simp; done) | (simp [*]; done) | (simp; exact TabW.bclose _ _) | (simp; exact TabW.bclose2 _)), H', ⟨by have := HK1.out; omega⟩, by repeat (first | exact Drawn0.refl _ | apply Drawn0.step)⟩
      · rw [if_neg c4] at H
        have c4b0 : decide (x8_1 < 64) = false := decide_eq_false c4
        clear c4
        obtain rfl := Option.some.inj H
        go_wp2
        go_ret
        exact ⟨by first | rfl | (simp; done) | (simp [*]; done) | (simp; exact TabW.bclose _ _) | (simp; exact TabW.bclose2 _), by repeat (first | exact Drawn0.refl _ | apply Drawn0.step)⟩

/-! ### selkieref02_Do: function 34 -/
mutual
def selkieref02_Do.j0 : Nat → Int → Int → Int → Int → Bool → Option (Int × Int)
  | 0, _, _, _, _, _ => none
  | k + 1, x0, x1, x2, x10, x35 => if x35 = true then (if x2 = 0 then (some (0, 2)) else (if x2 = (-1) then (if x0 = 4 then (some (wrap64 (IntKind.u64.wrap (-(IntKind.u64.wrap (x1)))), 0)) else (some (0, 0))) else (if (Int.tmod x1 x2) = 0 then (selkieref02_Do.j1 k x0 x2 (wrap64 (Int.tdiv x1 x2)) (Int.tmod x1 x2) false) else (selkieref02_Do.j1 k x0 x2 (wrap64 (Int.tdiv x1 x2)) (Int.tmod x1 x2) ((decide ((Int.tmod x1 x2) < 0)) != (decide (x2 < 0))))))) else (if x10 = 6 then ((selkieref02_bits.f k x0 (IntKind.u64.wrap (x1)) x2).bind fun t184 => (some (t184, 0))) else (if x10 = 7 then ((selkieref02_bits.f k x0 (IntKind.u64.wrap (x1)) x2).bind fun t185 => (some (t185, 0))) else (if x10 = 8 then ((selkieref02_bits.f k x0 (IntKind.u64.wrap (x1)) x2).bind fun t186 => (some (t186, 0))) else (if x10 = 9 then ((selkieref02_bits.f k x0 (IntKind.u64.wrap (x1)) x2).bind fun t187 => (some (t187, 0))) else (if x10 = 10 then ((selkieref02_bits.f k x0 (IntKind.u64.wrap (x1)) x2).bind fun t188 => (some (t188, 0))) else (some (0, 1)))))))
def selkieref02_Do.j1 : Nat → Int → Int → Int → Int → Bool → Option (Int × Int)
  | 0, _, _, _, _, _ => none
  | k + 1, x0, x2, x8, x9, x62 => if x62 = true then (if x0 = 4 then (some (wrap64 (x8 - 1), 0)) else (some (wrap64 (x9 + x2), 0))) else (if x0 = 4 then (some (x8, 0)) else (some (x9, 0)))
end
def selkieref02_Do.f (k : Nat) (a0 : Int) (a1 : Int) (a2 : Int) : Option (Int × Int) := if a0 = 1 then (some (wrap64 (IntKind.u64.wrap ((IntKind.u64.wrap (a1)) + (IntKind.u64.wrap (a2)))), 0)) else (if a0 = 2 then (some (wrap64 (IntKind.u64.wrap ((IntKind.u64.wrap (a1)) - (IntKind.u64.wrap (a2)))), 0)) else (if a0 = 3 then (some (wrap64 (IntKind.u64.wrap ((IntKind.u64.wrap (a1)) * (IntKind.u64.wrap (a2)))), 0)) else (if a0 = 4 then (selkieref02_Do.j0 k a0 a1 a2 a0 (a0 == 4)) else (selkieref02_Do.j0 k a0 a1 a2 a0 (a0 == 5)))))
theorem selkieref02_Do.mono_l : ∀ k, (∀ y0 y1 y2 y3 y4, LeO (selkieref02_Do.j0 k y0 y1 y2 y3 y4) (selkieref02_Do.j0 (k + 1) y0 y1 y2 y3 y4)) ∧ (∀ y0 y1 y2 y3 y4, LeO (selkieref02_Do.j1 k y0 y1 y2 y3 y4) (selkieref02_Do.j1 (k + 1) y0 y1 y2 y3 y4))
  | 0 => ⟨fun _ _ _ _ _ r h => by simp [selkieref02_Do.j0] at h, fun _ _ _ _ _ r h => by simp [selkieref02_Do.j1] at h⟩
  | k + 1 => by
    obtain ⟨ih0, ih1⟩ := selkieref02_Do.mono_l k
    refine ⟨?_, ?_⟩
    · intro y0 y1 y2 y3 y4
      unfold selkieref02_Do.j0
      repeat' first
      | (with_reducible exact ih0 _ _ _ _ _)
      | (with_reducible exact ih1 _ _ _ _ _)
      | (with_reducible exact selkieref02_bits.mono _ _ _ _)
      | (with_reducible exact LeO.refl _)
      | (with_reducible exact LeO.none _)
      | (with_reducible refine LeO.ite ?_ ?_)
      | (with_reducible refine LeO.bind ?_ (fun _ => ?_))
      | exact ih0 _ _ _ _ _
      | exact ih1 _ _ _ _ _
      | exact selkieref02_bits.mono _ _ _ _
      | exact LeO.none _
      | refine LeO.ite ?_ ?_
      | refine LeO.bind ?_ (fun _ => ?_)
    · intro y0 y1 y2 y3 y4
      unfold selkieref02_Do.j1
      repeat' first
      | (with_reducible exact ih0 _ _ _ _ _)
      | (with_reducible exact ih1 _ _ _ _ _)
      | (with_reducible exact selkieref02_bits.mono _ _ _ _)
      | (with_reducible exact LeO.refl _)
      | (with_reducible exact LeO.none _)
      | (with_reducible refine LeO.ite ?_ ?_)
      | (with_reducible refine LeO.bind ?_ (fun _ => ?_))
      | exact ih0 _ _ _ _ _
      | exact ih1 _ _ _ _ _
      | exact selkieref02_bits.mono _ _ _ _
      | exact LeO.none _
      | refine LeO.ite ?_ ?_
      | refine LeO.bind ?_ (fun _ => ?_)
theorem selkieref02_Do.mono : ∀ a0 a1 a2 k, LeO (selkieref02_Do.f k a0 a1 a2) (selkieref02_Do.f (k + 1) a0 a1 a2) := by
  intro a0 a1 a2 k
  obtain ⟨ih0, ih1⟩ := selkieref02_Do.mono_l k
  unfold selkieref02_Do.f
  repeat' first
      | (with_reducible exact ih0 _ _ _ _ _)
      | (with_reducible exact ih1 _ _ _ _ _)
      | (with_reducible exact selkieref02_bits.mono _ _ _ _)
      | (with_reducible exact LeO.refl _)
      | (with_reducible exact LeO.none _)
      | (with_reducible refine LeO.ite ?_ ?_)
      | (with_reducible refine LeO.bind ?_ (fun _ => ?_))
      | exact ih0 _ _ _ _ _
      | exact ih1 _ _ _ _ _
      | exact selkieref02_bits.mono _ _ _ _
      | exact LeO.none _
      | refine LeO.ite ?_ ?_
      | refine LeO.bind ?_ (fun _ => ?_)
set_option maxHeartbeats 8000000 in
set_option maxRecDepth 100000 in
theorem selkieref02_Do.calls (k : Nat) (a0 : Int) (a1 : Int) (a2 : Int) (r1 : Int) (r2 : Int) (w : World) (h : selkieref02_Do.f k a0 a1 a2 = some (r1, r2)) :
    Calls Tryz.prog 34 #[.int .i64 a0, .int .i64 a1, .int .i64 a2] w fun e w' => e = .returned (.tuple #[.int .i64 r1, .int .i64 r2]) ∧ Drawn0 w w' := by
  have H : (if a0 = 1 then (some (wrap64 (IntKind.u64.wrap ((IntKind.u64.wrap (a1)) + (IntKind.u64.wrap (a2)))), 0)) else (if a0 = 2 then (some (wrap64 (IntKind.u64.wrap ((IntKind.u64.wrap (a1)) - (IntKind.u64.wrap (a2)))), 0)) else (if a0 = 3 then (some (wrap64 (IntKind.u64.wrap ((IntKind.u64.wrap (a1)) * (IntKind.u64.wrap (a2)))), 0)) else (if a0 = 4 then (selkieref02_Do.j0 k a0 a1 a2 a0 (a0 == 4)) else (selkieref02_Do.j0 k a0 a1 a2 a0 (a0 == 5)))))) = some (r1, r2) := h
  clear h
  by_cases c4 : a0 = 1
  · rw [if_pos c4] at H
    have c4b0 : (a0 == 1) = true := beq_iff_eq.mpr c4
    have c4b1 : (a0 != 1) = false := bne_eq_false_iff_eq.mpr c4
    clear c4
    simp only [Option.some.injEq, Prod.mk.injEq] at H
    obtain ⟨rfl, rfl⟩ := H
    go_enter Tryz.func34, Tryz.ntmps34
    go_wp2
    repeat (go_quiet (fail); try go_wp2)
    go_ret2
    exact ⟨by first | rfl | (simp; done) | (simp [*]; done) | (simp; exact TabW.bclose _ _) | (simp; exact TabW.bclose2 _), by repeat (first | exact Drawn0.refl _ | apply Drawn0.step)⟩
  · rw [if_neg c4] at H
    have c4b0 : (a0 == 1) = false := beq_eq_false_iff_ne.mpr c4
    have c4b1 : (a0 != 1) = true := bne_iff_ne.mpr c4
    by_cases c5 : a0 = 2
    · rw [if_pos c5] at H
      have c5b0 : (a0 == 2) = true := beq_iff_eq.mpr c5
      have c5b1 : (a0 != 2) = false := bne_eq_false_iff_eq.mpr c5
      clear c5
      simp only [Option.some.injEq, Prod.mk.injEq] at H
      obtain ⟨rfl, rfl⟩ := H
      go_enter Tryz.func34, Tryz.ntmps34
      go_wp2
      repeat (go_quiet (fail); try go_wp2)
      go_ret2
      exact ⟨by first | rfl | (simp; done) | (simp [*]; done) | (simp; exact TabW.bclose _ _) | (simp; exact TabW.bclose2 _), by repeat (first | exact Drawn0.refl _ | apply Drawn0.step)⟩
    · rw [if_neg c5] at H
      have c5b0 : (a0 == 2) = false := beq_eq_false_iff_ne.mpr c5
      have c5b1 : (a0 != 2) = true := bne_iff_ne.mpr c5
      by_cases c6 : a0 = 3
      · rw [if_pos c6] at H
        have c6b0 : (a0 == 3) = true := beq_iff_eq.mpr c6
        have c6b1 : (a0 != 3) = false := bne_eq_false_iff_eq.mpr c6
        clear c6
        simp only [Option.some.injEq, Prod.mk.injEq] at H
        obtain ⟨rfl, rfl⟩ := H
        go_enter Tryz.func34, Tryz.ntmps34
        go_wp2
        repeat (go_quiet (fail); try go_wp2)
        go_ret2
        exact ⟨by first | rfl | (simp; done) | (simp [*]; done) | (simp; exact TabW.bclose _ _) | (simp; exact TabW.bclose2 _), by repeat (first | exact Drawn0.refl _ | apply Drawn0.step)⟩
      · rw [if_neg c6] at H
        have c6b0 : (a0 == 3) = false := beq_eq_false_iff_ne.mpr c6
        have c6b1 : (a0 != 3) = true := bne_iff_ne.mpr c6
        have HC7 := Aside0.mk H
        clear H
        go_enter Tryz.func34, Tryz.ntmps34
        go_upto_if 35 with (fail)
        repeat (go_quiet (fail); go_upto_if 35 with (fail))
        go_cut [35] (fun v35 wc => ∃ (kq : Nat) (x35_6 : Bool), v35 = .bool x35_6 ∧ Aside0 (selkieref02_Do.j0 kq a0 a1 a2 a0 x35_6 = some (r1, r2)) ∧ Aside0 (kq ≤ k) ∧ Drawn0 w wc)
        case first =>
          have H := HC7.out
          clear HC7
          by_cases c8 : a0 = 4
          · rw [if_pos c8] at H
            have c8b0 : (a0 == 4) = true := beq_iff_eq.mpr c8
            have c8b1 : (a0 != 4) = false := bne_eq_false_iff_eq.mpr c8
            clear c8
            (first | rw [c8b0] | (simp only [i64_w, i32_w]; rw [c8b0]) | skip)
            have H' := Aside0.mk H
            clear H
            go_wp2
            repeat (go_quiet (fail); try go_wp2)
            go_meet
            case rel => exact ⟨_, ((a0 == 4)), (by first | rfl | (simp; done) | (simp [*]; done) | (simp; exact TabW.bclose _ _) | (simp; exact TabW.bclose2 _)), H', ⟨by first | omega | exact Nat.le_refl _⟩, by repeat (first | exact Drawn0.refl _ | apply Drawn0.step)⟩
          · rw [if_neg c8] at H
            have c8b0 : (a0 == 4) = false := beq_eq_false_iff_ne.mpr c8
            have c8b1 : (a0 != 4) = true := bne_iff_ne.mpr c8
            (first | rw [c8b0] | (simp only [i64_w, i32_w]; rw [c8b0]) | skip)
            have H' := Aside0.mk H
            clear H
            go_wp2
            repeat (go_quiet (fail); try go_wp2)
            go_meet
            case rel => exact ⟨_, ((a0 == 5)), (by first | rfl | (simp; done) | (simp [*]; done) | (simp; exact TabW.bclose _ _) | (simp; exact TabW.bclose2 _)), H', ⟨by first | omega | exact Nat.le_refl _⟩, by repeat (first | exact Drawn0.refl _ | apply Drawn0.step)⟩
        case rest =>
          clear HC7
          try clear p2
          try clear c3
          try clear c4
          try clear c4b0
          try clear c4b1
          try clear c5
          try clear c5b0
          try clear c5b1
          try clear c6
          try clear c6b0
          try clear c6b1
          try clear p6
          try clear c8
          try clear c8b0
          try clear c8b1
          obtain ⟨kq, x35_6, rfl, HA, HJ6, ⟨mc6, rfl⟩⟩ := hcut
          cases kq with
          | zero => exact absurd HA.out (by simp [selkieref02_Do.j0])
          | succ kj6 =>
            have H := HA.out
            clear HA
            simp only [selkieref02_Do.j0] at H
            by_cases c9 : x35_6 = true
            · subst c9
              have H1 : (if a2 = 0 then (some (0, 2)) else (if a2 = (-1) then (if a0 = 4 then (some (wrap64 (IntKind.u64.wrap (-(IntKind.u64.wrap (a1)))), 0)) else (some (0, 0))) else (if (Int.tmod a1 a2) = 0 then (selkieref02_Do.j1 kj6 a0 a2 (wrap64 (Int.tdiv a1 a2)) (Int.tmod a1 a2) false) else (selkieref02_Do.j1 kj6 a0 a2 (wrap64 (Int.tdiv a1 a2)) (Int.tmod a1 a2) ((decide ((Int.tmod a1 a2) < 0)) != (decide (a2 < 0))))))) = some (r1, r2) := by rw [if_pos rfl] at H; exact H
              clear H
              have H := H1
              clear H1
              by_cases c10 : a2 = 0
              · rw [if_pos c10] at H
                have c10b0 : (a2 == 0) = true := beq_iff_eq.mpr c10
                have c10b1 : (a2 != 0) = false := bne_eq_false_iff_eq.mpr c10
                clear c10
                simp only [Option.some.injEq, Prod.mk.injEq] at H
                obtain ⟨rfl, rfl⟩ := H
                go_wp2
                repeat (go_quiet (fail); try go_wp2)
                go_ret2
                exact ⟨by first | rfl | (simp; done) | (simp [*]; done) | (simp; exact TabW.bclose _ _) | (simp; exact TabW.bclose2 _), by repeat (first | exact Drawn0.refl _ | apply Drawn0.step)⟩
              · rw [if_neg c10] at H
                have c10b0 : (a2 == 0) = false := beq_eq_false_iff_ne.mpr c10
                have c10b1 : (a2 != 0) = true := bne_iff_ne.mpr c10
                by_cases c11 : a2 = (-1)
                · rw [if_pos c11] at H
                  have c11b0 : (a2 == (-1)) = true := beq_iff_eq.mpr c11
                  have c11b1 : (a2 != (-1)) = false := bne_eq_false_iff_eq.mpr c11
                  clear c11
                  by_cases c12 : a0 = 4
                  · rw [if_pos c12] at H
                    have c12b0 : (a0 == 4) = true := beq_iff_eq.mpr c12
                    have c12b1 : (a0 != 4) = false := bne_eq_false_iff_eq.mpr c12
                    clear c12
                    simp only [Option.some.injEq, Prod.mk.injEq] at H
                    obtain ⟨rfl, rfl⟩ := H
                    go_wp2
                    repeat (go_quiet (fail); try go_wp2)
                    go_ret2
                    exact ⟨by first | rfl | (simp; done) | (simp [*]; done) | (simp; exact TabW.bclose _ _) | (simp; exact TabW.bclose2 _), by repeat (first | exact Drawn0.refl _ | apply Drawn0.step)⟩
                  · rw [if_neg c12] at H
                    have c12b0 : (a0 == 4) = false := beq_eq_false_iff_ne.mpr c12
                    have c12b1 : (a0 != 4) = true := bne_iff_ne.mpr c12
                    simp only [Option.some.injEq, Prod.mk.injEq] at H
                    obtain ⟨rfl, rfl⟩ := H
                    go_wp2
                    repeat (go_quiet (fail); try go_wp2)
                    go_ret2
                    exact ⟨by first | rfl | (simp; done) | (simp [*]; done) | (simp; exact TabW.bclose _ _) | (simp; exact TabW.bclose2 _), by repeat (first | exact Drawn0.refl _ | apply Drawn0.step)⟩
                · rw [if_neg c11] at H
                  have c11b0 : (a2 == (-1)) = false := beq_eq_false_iff_ne.mpr c11
                  have c11b1 : (a2 != (-1)) = true := bne_iff_ne.mpr c11
                  have HC13 := Aside0.mk H
                  clear H
                  go_upto_region 17 with (fail)
                  repeat (go_quiet (fail); go_upto_region 17 with (fail))
                  go_cut [62] (fun v62 wc => ∃ (kq : Nat) (x62_12 : Bool), v62 = .bool x62_12 ∧ Aside0 (selkieref02_Do.j1 kq a0 a2 (wrap64 (Int.tdiv a1 a2)) (Int.tmod a1 a2) x62_12 = some (r1, r2)) ∧ Aside0 (kq ≤ kj6) ∧ Drawn0 w wc)
                  case first =>
                    have H := HC13.out
                    clear HC13
                    by_cases c14 : (Int.tmod a1 a2) = 0
                    · rw [if_pos c14] at H
                      have c14b0 : ((Int.tmod a1 a2) == 0) = true := beq_iff_eq.mpr c14
                      have c14b1 : ((Int.tmod a1 a2) != 0) = false := bne_eq_false_iff_eq.mpr c14
                      clear c14
                      (first | rw [c14b0] | (simp only [i64_w, i32_w]; rw [c14b0]) | skip)
                      have H' := Aside0.mk H
                      clear H
                      go_wp2
                      repeat (go_quiet (fail); try go_wp2)
                      go_meet
                      case rel => exact ⟨_, (false), (by first | rfl | (simp; done) | (simp [*]; done) | (simp; exact TabW.bclose _ _) | (simp; exact TabW.bclose2 _)), H', ⟨by have := HJ6.out; first | omega | exact Nat.le_refl _⟩, by repeat (first | exact Drawn0.refl _ | apply Drawn0.step)⟩
                    · rw [if_neg c14] at H
                      have c14b0 : ((Int.tmod a1 a2) == 0) = false := beq_eq_false_iff_ne.mpr c14
                      have c14b1 : ((Int.tmod a1 a2) != 0) = true := bne_iff_ne.mpr c14
                      (first | rw [c14b0] | (simp only [i64_w, i32_w]; rw [c14b0]) | skip)
                      have H' := Aside0.mk H
                      clear H
                      go_wp2
                      repeat (go_quiet (fail); try go_wp2)
                      go_meet
                      case rel => exact ⟨_, (((decide ((Int.tmod a1 a2) < 0)) != (decide (a2 < 0)))), (by first | rfl | (simp; done) | (simp [*]; done) | (simp; exact TabW.bclose _ _) | (simp; exact TabW.bclose2 _)), H', ⟨by have := HJ6.out; first | omega | exact Nat.le_refl _⟩, by repeat (first | exact Drawn0.refl _ | apply Drawn0.step)⟩
                  case rest =>
                    clear HC13
                    try clear c1
                    try clear p2
                    try clear c3
                    try clear c4
                    try clear c4b0
                    try clear c4b1
                    try clear c5
                    try clear c5b0
                    try clear c5b1
                    try clear c6
                    try clear c6b0
                    try clear c6b1
                    try clear p6
                    try clear c8
                    try clear c8b0
                    try clear c8b1
                    try clear c9
                    try clear c10
                    try clear c10b0
                    try clear c10b1
                    try clear c11
                    try clear c11b0
                    try clear c11b1
                    try clear c12
                    try clear c12b0
                    try clear c12b1
                    try clear c14
                    try clear c14b0
                    try clear c14b1
                    try clear p2
                    try clear p6
                    obtain ⟨kq, x62_12, rfl, HA, HJ12, ⟨mc12, rfl⟩⟩ := hcut
                    cases kq with
                    | zero => exact absurd HA.out (by simp [selkieref02_Do.j1])
                    | succ kj12 =>
                      have H := HA.out
                      clear HA
                      simp only [selkieref02_Do.j1] at H
                      by_cases c15 : x62_12 = true
                      · subst c15
                        have H1 : (if a0 = 4 then (some (wrap64 ((wrap64 (Int.tdiv a1 a2)) - 1), 0)) else (some (wrap64 ((Int.tmod a1 a2) + a2), 0))) = some (r1, r2) := by rw [if_pos rfl] at H; exact H
                        clear H
                        have H := H1
                        clear H1
                        by_cases c16 : a0 = 4
                        · rw [if_pos c16] at H
                          have c16b0 : (a0 == 4) = true := beq_iff_eq.mpr c16
                          have c16b1 : (a0 != 4) = false := bne_eq_false_iff_eq.mpr c16
                          clear c16
                          simp only [Option.some.injEq, Prod.mk.injEq] at H
                          obtain ⟨rfl, rfl⟩ := H
                          go_wp2
                          repeat (go_quiet (fail); try go_wp2)
                          go_ret2
                          exact ⟨by first | rfl | (simp; done) | (simp [*]; done) | (simp; exact TabW.bclose _ _) | (simp; exact TabW.bclose2 _), by repeat (first | exact Drawn0.refl _ | apply Drawn0.step)⟩
                        · rw [if_neg c16] at H
                          have c16b0 : (a0 == 4) = false := beq_eq_false_iff_ne.mpr c16
                          have c16b1 : (a0 != 4) = true := bne_iff_ne.mpr c16
                          simp only [Option.some.injEq, Prod.mk.injEq] at H
                          obtain ⟨rfl, rfl⟩ := H
                          go_wp2
                          repeat (go_quiet (fail); try go_wp2)
                          go_ret2
                          exact ⟨by first | rfl | (simp; done) | (simp [*]; done) | (simp; exact TabW.bclose _ _) | (simp; exact TabW.bclose2 _), by repeat (first | exact Drawn0.refl _ | apply Drawn0.step)⟩
                      · replace c15 := Bool.eq_false_iff.mpr c15
                        subst c15
                        have H1 : (if a0 = 4 then (some ((wrap64 (Int.tdiv a1 a2)), 0)) else (some ((Int.tmod a1 a2), 0))) = some (r1, r2) := by rw [if_neg (show ¬ (false = true) by decide)] at H; exact H
                        clear H
                        have H := H1
                        clear H1
                        by_cases c17 : a0 = 4
                        · rw [if_pos c17] at H
                          have c17b0 : (a0 == 4) = true := beq_iff_eq.mpr c17
                          have c17b1 : (a0 != 4) = false := bne_eq_false_iff_eq.mpr c17
                          clear c17
                          simp only [Option.some.injEq, Prod.mk.injEq] at H
                          obtain ⟨rfl, rfl⟩ := H
                          go_wp2
                          repeat (go_quiet (fail); try go_wp2)
                          go_ret2
                          exact ⟨by first | rfl | (simp; done) | (simp [*]; done) | (simp; exact TabW.bclose _ _) | (simp; exact TabW.bclose2 _), by repeat (first | exact Drawn0.refl _ | apply Drawn0.step)⟩
                        · rw [if_neg c17] at H
                          have c17b0 : (a0 == 4) = false := beq_eq_false_iff_ne.mpr c17
                          have c17b1 : (a0 != 4) = true := bne_iff_ne.mpr c17
                          simp only [Option.some.injEq, Prod.mk.injEq] at H
                          obtain ⟨rfl, rfl⟩ := H
                          go_wp2
                          repeat (go_quiet (fail); try go_wp2)
                          go_ret2
                          exact ⟨by first | rfl | (simp; done) | (simp [*]; done) | (simp; exact TabW.bclose _ _) | (simp; exact TabW.bclose2 _), by repeat (first | exact Drawn0.refl _ | apply Drawn0.step)⟩
            · replace c9 := Bool.eq_false_iff.mpr c9
              subst c9
              have H1 : (if a0 = 6 then ((selkieref02_bits.f kj6 a0 (IntKind.u64.wrap (a1)) a2).bind fun t184 => (some (t184, 0))) else (if a0 = 7 then ((selkieref02_bits.f kj6 a0 (IntKind.u64.wrap (a1)) a2).bind fun t185 => (some (t185, 0))) else (if a0 = 8 then ((selkieref02_bits.f kj6 a0 (IntKind.u64.wrap (a1)) a2).bind fun t186 => (some (t186, 0))) else (if a0 = 9 then ((selkieref02_bits.f kj6 a0 (IntKind.u64.wrap (a1)) a2).bind fun t187 => (some (t187, 0))) else (if a0 = 10 then ((selkieref02_bits.f kj6 a0 (IntKind.u64.wrap (a1)) a2).bind fun t188 => (some (t188, 0))) else (some (0, 1))))))) = some (r1, r2) := by rw [if_neg (show ¬ (false = true) by decide)] at H; exact H
              clear H
              have H := H1
              clear H1
              by_cases c18 : a0 = 6
              · rw [if_pos c18] at H
                have c18b0 : (a0 == 6) = true := beq_iff_eq.mpr c18
                have c18b1 : (a0 != 6) = false := bne_eq_false_iff_eq.mpr c18
                clear c18
                replace H := Option.bind_eq_some_iff.mp H
                obtain ⟨t184, A190, H⟩ := H
                replace H : (some (t184, 0)) = some (r1, r2) := H
                have A19 := Aside0.mk A190
                clear A190
                simp only [Option.some.injEq, Prod.mk.injEq] at H
                obtain ⟨rfl, rfl⟩ := H
                go_wp2_with (first | (go_at_call 52; (with_reducible refine (selkieref02_bits.calls kj6 a0 (IntKind.u64.wrap (a1)) a2 t184 _ A19.out).mono ?_); rintro e w' ⟨rfl, ⟨nd, rfl⟩⟩; (try first | exact ⟨rfl, _, World.drewN_drewN _ _ _⟩ | exact ⟨rfl, _, Eq.trans (World.drewN_drewN _ _ _) (congrArg (World.drewN _) (Nat.add_assoc _ _ _))⟩)))
                repeat (go_quiet (first | (go_at_call 52; (with_reducible refine (selkieref02_bits.calls kj6 a0 (IntKind.u64.wrap (a1)) a2 t184 _ A19.out).mono ?_); rintro e w' ⟨rfl, ⟨nd, rfl⟩⟩; (try first | exact ⟨rfl, _, World.drewN_drewN _ _ _⟩ | exact ⟨rfl, _, Eq.trans (World.drewN_drewN _ _ _) (congrArg (World.drewN _) (Nat.add_assoc _ _ _))⟩))); try go_wp2_with (first | (go_at_call 52; (with_reducible refine (selkieref02_bits.calls kj6 a0 (IntKind.u64.wrap (a1)) a2 t184 _ A19.out).mono ?_); rintro e w' ⟨rfl, ⟨nd, rfl⟩⟩; (try first | exact ⟨rfl, _, World.drewN_drewN _ _ _⟩ | exact ⟨rfl, _, Eq.trans (World.drewN_drewN _ _ _) (congrArg (World.drewN _) (Nat.add_assoc _ _ _))⟩))))
                go_ret2
                exact ⟨by first | rfl | (simp; done) | (simp [*]; done) | (simp; exact TabW.bclose _ _) | (simp; exact TabW.bclose2 _), by repeat (first | exact Drawn0.refl _ | apply Drawn0.step)⟩
              · rw [if_neg c18] at H
                have c18b0 : (a0 == 6) = false := beq_eq_false_iff_ne.mpr c18
                have c18b1 : (a0 != 6) = true := bne_iff_ne.mpr c18
                by_cases c20 : a0 = 7
                · rw [if_pos c20] at H
                  have c20b0 : (a0 == 7) = true := beq_iff_eq.mpr c20
                  have c20b1 : (a0 != 7) = false := bne_eq_false_iff_eq.mpr c20
                  clear c20
                  replace H := Option.bind_eq_some_iff.mp H
                  obtain ⟨t185, A210, H⟩ := H
                  replace H : (some (t185, 0)) = some (r1, r2) := H
                  have A21 := Aside0.mk A210
                  clear A210
                  simp only [Option.some.injEq, Prod.mk.injEq] at H
                  obtain ⟨rfl, rfl⟩ := H
                  go_wp2_with (first | (go_at_call 52; (with_reducible refine (selkieref02_bits.calls kj6 a0 (IntKind.u64.wrap (a1)) a2 t185 _ A21.out).mono ?_); rintro e w' ⟨rfl, ⟨nd, rfl⟩⟩; (try first | exact ⟨rfl, _, World.drewN_drewN _ _ _⟩ | exact ⟨rfl, _, Eq.trans (World.drewN_drewN _ _ _) (congrArg (World.drewN _) (Nat.add_assoc _ _ _))⟩)))
                  repeat (go_quiet (first | (go_at_call 52; (with_reducible refine (selkieref02_bits.calls kj6 a0 (IntKind.u64.wrap (a1)) a2 t185 _ A21.out).mono ?_); rintro e w' ⟨rfl, ⟨nd, rfl⟩⟩; (try first | exact ⟨rfl, _, World.drewN_drewN _ _ _⟩ | exact ⟨rfl, _, Eq.trans (World.drewN_drewN _ _ _) (congrArg (World.drewN _) (Nat.add_assoc _ _ _))⟩))); try go_wp2_with (first | (go_at_call 52; (with_reducible refine (selkieref02_bits.calls kj6 a0 (IntKind.u64.wrap (a1)) a2 t185 _ A21.out).mono ?_); rintro e w' ⟨rfl, ⟨nd, rfl⟩⟩; (try first | exact ⟨rfl, _, World.drewN_drewN _ _ _⟩ | exact ⟨rfl, _, Eq.trans (World.drewN_drewN _ _ _) (congrArg (World.drewN _) (Nat.add_assoc _ _ _))⟩))))
                  go_ret2
                  exact ⟨by first | rfl | (simp; done) | (simp [*]; done) | (simp; exact TabW.bclose _ _) | (simp; exact TabW.bclose2 _), by repeat (first | exact Drawn0.refl _ | apply Drawn0.step)⟩
                · rw [if_neg c20] at H
                  have c20b0 : (a0 == 7) = false := beq_eq_false_iff_ne.mpr c20
                  have c20b1 : (a0 != 7) = true := bne_iff_ne.mpr c20
                  by_cases c22 : a0 = 8
                  · rw [if_pos c22] at H
                    have c22b0 : (a0 == 8) = true := beq_iff_eq.mpr c22
                    have c22b1 : (a0 != 8) = false := bne_eq_false_iff_eq.mpr c22
                    clear c22
                    replace H := Option.bind_eq_some_iff.mp H
                    obtain ⟨t186, A230, H⟩ := H
                    replace H : (some (t186, 0)) = some (r1, r2) := H
                    have A23 := Aside0.mk A230
                    clear A230
                    simp only [Option.some.injEq, Prod.mk.injEq] at H
                    obtain ⟨rfl, rfl⟩ := H
                    go_wp2_with (first | (go_at_call 52; (with_reducible refine (selkieref02_bits.calls kj6 a0 (IntKind.u64.wrap (a1)) a2 t186 _ A23.out).mono ?_); rintro e w' ⟨rfl, ⟨nd, rfl⟩⟩; (try first | exact ⟨rfl, _, World.drewN_drewN _ _ _⟩ | exact ⟨rfl, _, Eq.trans (World.drewN_drewN _ _ _) (congrArg (World.drewN _) (Nat.add_assoc _ _ _))⟩)))
                    repeat (go_quiet (first | (go_at_call 52; (with_reducible refine (selkieref02_bits.calls kj6 a0 (IntKind.u64.wrap (a1)) a2 t186 _ A23.out).mono ?_); rintro e w' ⟨rfl, ⟨nd, rfl⟩⟩; (try first | exact ⟨rfl, _, World.drewN_drewN _ _ _⟩ | exact ⟨rfl, _, Eq.trans (World.drewN_drewN _ _ _) (congrArg (World.drewN _) (Nat.add_assoc _ _ _))⟩))); try go_wp2_with (first | (go_at_call 52; (with_reducible refine (selkieref02_bits.calls kj6 a0 (IntKind.u64.wrap (a1)) a2 t186 _ A23.out).mono ?_); rintro e w' ⟨rfl, ⟨nd, rfl⟩⟩; (try first | exact ⟨rfl, _, World.drewN_drewN _ _ _⟩ | exact ⟨rfl, _, Eq.trans (World.drewN_drewN _ _ _) (congrArg (World.drewN _) (Nat.add_assoc _ _ _))⟩))))
                    go_ret2
                    exact ⟨by first | rfl | (simp; done) | (simp [*]; done) | (simp; exact TabW.bclose _ _) | (simp; exact TabW.bclose2 _), by repeat (first | exact Drawn0.refl _ | apply Drawn0.step)⟩
                  · rw [if_neg c22] at H
                    have c22b0 : (a0 == 8) = false := beq_eq_false_iff_ne.mpr c22
                    have c22b1 : (a0 != 8) = true := bne_iff_ne.mpr c22
                    by_cases c24 : a0 = 9
                    · rw [if_pos c24] at H
                      have c24b0 : (a0 == 9) = true := beq_iff_eq.mpr c24
                      have c24b1 : (a0 != 9) = false := bne_eq_false_iff_eq.mpr c24
                      clear c24
                      replace H := Option.bind_eq_some_iff.mp H
                      obtain ⟨t187, A250, H⟩ := H
                      replace H : (some (t187, 0)) = some (r1, r2) := H
                      have A25 := Aside0.mk A250
                      clear A250
                      simp only [Option.some.injEq, Prod.mk.injEq] at H
                      obtain ⟨rfl, rfl⟩ := H
                      go_wp2_with (first | (go_at_call 52; (with_reducible refine (selkieref02_bits.calls kj6 a0 (IntKind.u64.wrap (a1)) a2 t187 _ A25.out).mono ?_); rintro e w' ⟨rfl, ⟨nd, rfl⟩⟩; (try first | exact ⟨rfl, _, World.drewN_drewN _ _ _⟩ | exact ⟨rfl, _, Eq.trans (World.drewN_drewN _ _ _) (congrArg (World.drewN _) (Nat.add_assoc _ _ _))⟩)))
                      repeat (go_quiet (first | (go_at_call 52; (with_reducible refine (selkieref02_bits.calls kj6 a0 (IntKind.u64.wrap (a1)) a2 t187 _ A25.out).mono ?_); rintro e w' ⟨rfl, ⟨nd, rfl⟩⟩; (try first | exact ⟨rfl, _, World.drewN_drewN _ _ _⟩ | exact ⟨rfl, _, Eq.trans (World.drewN_drewN _ _ _) (congrArg (World.drewN _) (Nat.add_assoc _ _ _))⟩))); try go_wp2_with (first | (go_at_call 52; (with_reducible refine (selkieref02_bits.calls kj6 a0 (IntKind.u64.wrap (a1)) a2 t187 _ A25.out).mono ?_); rintro e w' ⟨rfl, ⟨nd, rfl⟩⟩; (try first | exact ⟨rfl, _, World.drewN_drewN _ _ _⟩ | exact ⟨rfl, _, Eq.trans (World.drewN_drewN _ _ _) (congrArg (World.drewN _) (Nat.add_assoc _ _ _))⟩))))
                      go_ret2
                      exact ⟨by first | rfl | (simp; done) | (simp [*]; done) | (simp; exact TabW.bclose _ _) | (simp; exact TabW.bclose2 _), by repeat (first | exact Drawn0.refl _ | apply Drawn0.step)⟩
                    · rw [if_neg c24] at H
                      have c24b0 : (a0 == 9) = false := beq_eq_false_iff_ne.mpr c24
                      have c24b1 : (a0 != 9) = true := bne_iff_ne.mpr c24
                      by_cases c26 : a0 = 10
                      · rw [if_pos c26] at H
                        have c26b0 : (a0 == 10) = true := beq_iff_eq.mpr c26
                        have c26b1 : (a0 != 10) = false := bne_eq_false_iff_eq.mpr c26
                        clear c26
                        replace H := Option.bind_eq_some_iff.mp H
                        obtain ⟨t188, A270, H⟩ := H
                        replace H : (some (t188, 0)) = some (r1, r2) := H
                        have A27 := Aside0.mk A270
                        clear A270
                        simp only [Option.some.injEq, Prod.mk.injEq] at H
                        obtain ⟨rfl, rfl⟩ := H
                        go_wp2_with (first | (go_at_call 52; (with_reducible refine (selkieref02_bits.calls kj6 a0 (IntKind.u64.wrap (a1)) a2 t188 _ A27.out).mono ?_); rintro e w' ⟨rfl, ⟨nd, rfl⟩⟩; (try first | exact ⟨rfl, _, World.drewN_drewN _ _ _⟩ | exact ⟨rfl, _, Eq.trans (World.drewN_drewN _ _ _) (congrArg (World.drewN _) (Nat.add_assoc _ _ _))⟩)))
                        repeat (go_quiet (first | (go_at_call 52; (with_reducible refine (selkieref02_bits.calls kj6 a0 (IntKind.u64.wrap (a1)) a2 t188 _ A27.out).mono ?_); rintro e w' ⟨rfl, ⟨nd, rfl⟩⟩; (try first | exact ⟨rfl, _, World.drewN_drewN _ _ _⟩ | exact ⟨rfl, _, Eq.trans (World.drewN_drewN _ _ _) (congrArg (World.drewN _) (Nat.add_assoc _ _ _))⟩))); try go_wp2_with (first | (go_at_call 52; (with_reducible refine (selkieref02_bits.calls kj6 a0 (IntKind.u64.wrap (a1)) a2 t188 _ A27.out).mono ?_); rintro e w' ⟨rfl, ⟨nd, rfl⟩⟩; (try first | exact ⟨rfl, _, World.drewN_drewN _ _ _⟩ | exact ⟨rfl, _, Eq.trans (World.drewN_drewN _ _ _) (congrArg (World.drewN _) (Nat.add_assoc _ _ _))⟩))))
                        go_ret2
                        exact ⟨by first | rfl | (simp; done) | (simp [*]; done) | (simp; exact TabW.bclose _ _) | (simp; exact TabW.bclose2 _), by repeat (first | exact Drawn0.refl _ | apply Drawn0.step)⟩
                      · rw [if_neg c26] at H
                        have c26b0 : (a0 == 10) = false := beq_eq_false_iff_ne.mpr c26
                        have c26b1 : (a0 != 10) = true := bne_iff_ne.mpr c26
                        simp only [Option.some.injEq, Prod.mk.injEq] at H
                        obtain ⟨rfl, rfl⟩ := H
                        go_wp2
                        repeat (go_quiet (fail); try go_wp2)
                        go_ret2
                        exact ⟨by first | rfl | (simp; done) | (simp [*]; done) | (simp; exact TabW.bclose _ _) | (simp; exact TabW.bclose2 _), by repeat (first | exact Drawn0.refl _ | apply Drawn0.step)⟩

/-! ### selkieref02_One: function 41 -/
def selkieref02_One.f (a0 : Int) (a1 : Int) : Option (Int × Int) := if a0 = 20 then (some (wrap64 (IntKind.u64.wrap (-(IntKind.u64.wrap (a1)))), 0)) else (if a0 = 21 then (some (wrap64 (IntKind.u64.wrap (18446744073709551615 - (IntKind.u64.wrap (a1)))), 0)) else (some (0, 1)))
set_option maxHeartbeats 8000000 in
set_option maxRecDepth 100000 in
theorem selkieref02_One.calls (a0 : Int) (a1 : Int) (r1 : Int) (r2 : Int) (w : World) (h : selkieref02_One.f a0 a1 = some (r1, r2)) :
    Calls Tryz.prog 41 #[.int .i64 a0, .int .i64 a1] w fun e w' => e = .returned (.tuple #[.int .i64 r1, .int .i64 r2]) ∧ Drawn0 w w' := by
  have H : (if a0 = 20 then (some (wrap64 (IntKind.u64.wrap (-(IntKind.u64.wrap (a1)))), 0)) else (if a0 = 21 then (some (wrap64 (IntKind.u64.wrap (18446744073709551615 - (IntKind.u64.wrap (a1)))), 0)) else (some (0, 1)))) = some (r1, r2) := h
  clear h
  by_cases c3 : a0 = 20
  · rw [if_pos c3] at H
    have c3b0 : (a0 == 20) = true := beq_iff_eq.mpr c3
    have c3b1 : (a0 != 20) = false := bne_eq_false_iff_eq.mpr c3
    clear c3
    simp only [Option.some.injEq, Prod.mk.injEq] at H
    obtain ⟨rfl, rfl⟩ := H
    go_enter Tryz.func41, Tryz.ntmps41
    go_wp2
    go_ret2
    exact ⟨by first | rfl | (simp; done) | (simp [*]; done) | (simp; exact TabW.bclose _ _) | (simp; exact TabW.bclose2 _), by repeat (first | exact Drawn0.refl _ | apply Drawn0.step)⟩
  · rw [if_neg c3] at H
    have c3b0 : (a0 == 20) = false := beq_eq_false_iff_ne.mpr c3
    have c3b1 : (a0 != 20) = true := bne_iff_ne.mpr c3
    by_cases c4 : a0 = 21
    · rw [if_pos c4] at H
      have c4b0 : (a0 == 21) = true := beq_iff_eq.mpr c4
      have c4b1 : (a0 != 21) = false := bne_eq_false_iff_eq.mpr c4
      clear c4
      simp only [Option.some.injEq, Prod.mk.injEq] at H
      obtain ⟨rfl, rfl⟩ := H
      go_enter Tryz.func41, Tryz.ntmps41
      go_wp2
      go_ret2
      exact ⟨by first | rfl | (simp; done) | (simp [*]; done) | (simp; exact TabW.bclose _ _) | (simp; exact TabW.bclose2 _), by repeat (first | exact Drawn0.refl _ | apply Drawn0.step)⟩
    · rw [if_neg c4] at H
      have c4b0 : (a0 == 21) = false := beq_eq_false_iff_ne.mpr c4
      have c4b1 : (a0 != 21) = true := bne_iff_ne.mpr c4
      simp only [Option.some.injEq, Prod.mk.injEq] at H
      obtain ⟨rfl, rfl⟩ := H
      go_enter Tryz.func41, Tryz.ntmps41
      go_wp2
      go_ret2
      exact ⟨by first | rfl | (simp; done) | (simp [*]; done) | (simp; exact TabW.bclose _ _) | (simp; exact TabW.bclose2 _), by repeat (first | exact Drawn0.refl _ | apply Drawn0.step)⟩

end Go.Proofs.YtpgpmldaggpciaaGreatDoor.PAll
