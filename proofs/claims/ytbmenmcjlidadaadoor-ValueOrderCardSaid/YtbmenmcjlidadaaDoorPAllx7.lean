-- printed by a call of the kit's print.py over several functions of this seat (wip/pr.sh)
import Derived.Test.YtbmenmcjlidadaaDoorPAllx0
import Derived.Test.YtbmenmcjlidadaaDoorPAllx4
namespace Go.Proofs.YtbmenmcjlidadaaDoor.PAll
open Go.RowKit Go.Proofs.YtbmenmcjlidadaaDoorW.PrintWords Go.Proofs.YtbmenmcjlidadaaDoorW.PrintLast Go.Proofs.YtbmenmcjlidadaaDoorW.PrintMore
attribute [local go_sem] max2_int min2_int max_two min_two max_three min_three max_four min_four   -- for this text's walks alone
set_option linter.unusedVariables false
set_option linter.unusedSimpArgs false

/-! ### selkieref01_Before: function 32 -/
mutual
def selkieref01_Before.l0 : Nat → ByteArray → ByteArray → Int → Option (Bool)
  | 0, _, _, _ => none
  | k + 1, x0, x1, x5 => if x5 < (x0.size : Int) then (selkieref01_Before.j1 k x0 x1 x5 (decide (x5 < (x1.size : Int)))) else (selkieref01_Before.j1 k x0 x1 x5 false)
def selkieref01_Before.j1 : Nat → ByteArray → ByteArray → Int → Bool → Option (Bool)
  | 0, _, _, _, _ => none
  | k + 1, x0, x1, x5, x15 => if x15 = true then (if 0 ≤ x5 then (if x5 < (x0.size : Int) then (if x5 < (x1.size : Int) then (if (bt x0 x5) = (bt x1 x5) then (selkieref01_Before.l0 k x0 x1 (wrap64 (x5 + 1))) else (some (decide ((bt x0 x5) < (bt x1 x5))))) else (none)) else (none)) else (none)) else (some (decide ((x0.size : Int) < (x1.size : Int))))
end
def selkieref01_Before.f (k : Nat) (a0 : ByteArray) (a1 : ByteArray) : Option (Bool) := selkieref01_Before.l0 k a0 a1 0
theorem selkieref01_Before.mono_l : ∀ k, (∀ y0 y1 y2, LeO (selkieref01_Before.l0 k y0 y1 y2) (selkieref01_Before.l0 (k + 1) y0 y1 y2)) ∧ (∀ y0 y1 y2 y3, LeO (selkieref01_Before.j1 k y0 y1 y2 y3) (selkieref01_Before.j1 (k + 1) y0 y1 y2 y3))
  | 0 => ⟨fun _ _ _ r h => by simp [selkieref01_Before.l0] at h, fun _ _ _ _ r h => by simp [selkieref01_Before.j1] at h⟩
  | k + 1 => by
    obtain ⟨ih0, ih1⟩ := selkieref01_Before.mono_l k
    refine ⟨?_, ?_⟩
    · intro y0 y1 y2
      unfold selkieref01_Before.l0
      repeat' first
      | (with_reducible exact ih0 _ _ _)
      | (with_reducible exact ih1 _ _ _ _)
      | (with_reducible exact LeO.refl _)
      | (with_reducible exact LeO.none _)
      | (with_reducible refine LeO.ite ?_ ?_)
      | (with_reducible refine LeO.bind ?_ (fun _ => ?_))
      | exact ih0 _ _ _
      | exact ih1 _ _ _ _
      | exact LeO.none _
      | refine LeO.ite ?_ ?_
      | refine LeO.bind ?_ (fun _ => ?_)
    · intro y0 y1 y2 y3
      unfold selkieref01_Before.j1
      repeat' first
      | (with_reducible exact ih0 _ _ _)
      | (with_reducible exact ih1 _ _ _ _)
      | (with_reducible exact LeO.refl _)
      | (with_reducible exact LeO.none _)
      | (with_reducible refine LeO.ite ?_ ?_)
      | (with_reducible refine LeO.bind ?_ (fun _ => ?_))
      | exact ih0 _ _ _
      | exact ih1 _ _ _ _
      | exact LeO.none _
      | refine LeO.ite ?_ ?_
      | refine LeO.bind ?_ (fun _ => ?_)
theorem selkieref01_Before.mono : ∀ a0 a1 k, LeO (selkieref01_Before.f k a0 a1) (selkieref01_Before.f (k + 1) a0 a1) := by
  intro a0 a1 k
  obtain ⟨ih0, ih1⟩ := selkieref01_Before.mono_l k
  unfold selkieref01_Before.f
  repeat' first
      | (with_reducible exact ih0 _ _ _)
      | (with_reducible exact ih1 _ _ _ _)
      | (with_reducible exact LeO.refl _)
      | (with_reducible exact LeO.none _)
      | (with_reducible refine LeO.ite ?_ ?_)
      | (with_reducible refine LeO.bind ?_ (fun _ => ?_))
      | exact ih0 _ _ _
      | exact ih1 _ _ _ _
      | exact LeO.none _
      | refine LeO.ite ?_ ?_
      | refine LeO.bind ?_ (fun _ => ?_)
set_option maxHeartbeats 8000000 in
set_option maxRecDepth 100000 in
theorem selkieref01_Before.calls (k : Nat) (a0 : ByteArray) (a1 : ByteArray) (r : Bool) (w : World) (h : selkieref01_Before.f k a0 a1 = some r) :
    Calls Tryd.prog 32 #[.string a0, .string a1] w fun e w' => e = .returned (.bool r) ∧ Drawn0 w w' := by
  have H : (selkieref01_Before.l0 k a0 a1 0) = some r := h
  clear h
  have H' := Aside0.mk H
  clear H
  go_enter Tryd.func32, Tryd.ntmps32
  go_wp2
  repeat (go_quiet (fail); try go_wp2)
  go_loopg [5] k (fun kq v5 w' => ∃ (x5_1 : Int), v5 = .int .i64 x5_1 ∧ Aside0 (selkieref01_Before.l0 kq a0 a1 x5_1 = some r) ∧ Aside0 (kq ≤ k) ∧ Drawn0 w w')
  case atStart => exact ⟨(0), (by first | rfl | (simp; done) | (simp [*]; done) | (simp; exact TabW.bclose _ _)), H', ⟨Nat.le_refl _⟩, by repeat (first | exact Drawn0.refl _ | apply Drawn0.step)⟩
  case round =>
    clear H'
    try clear p2
    obtain ⟨x5_1, rfl, HA, HK1, ⟨m1, rfl⟩⟩ := hrel
    cases gk with
    | zero => exact absurd HA.out (by simp [selkieref01_Before.l0])
    | succ k1 =>
      have H := HA.out
      clear HA
      simp only [selkieref01_Before.l0] at H
      have HC3 := Aside0.mk H
      clear H
      go_upto_region 2 with (fail)
      repeat (go_quiet (fail); go_upto_region 2 with (fail))
      go_cut [15] (fun v15 wc => ∃ (kq : Nat) (x15_2 : Bool), v15 = .bool x15_2 ∧ Aside0 (selkieref01_Before.j1 kq a0 a1 x5_1 x15_2 = some r) ∧ Aside0 (kq ≤ k1) ∧ Drawn0 w wc)
      case first =>
        have H := HC3.out
        clear HC3
        by_cases c4 : x5_1 < (a0.size : Int)
        · rw [if_pos c4] at H
          have c4b0 : decide (x5_1 < (a0.size : Int)) = true := decide_eq_true c4
          clear c4
          (first | rw [c4b0] | (simp only [i64_w, i32_w]; rw [c4b0]) | skip)
          have H' := Aside0.mk H
          clear H
          go_wp2
          repeat (go_quiet (fail); try go_wp2)
          go_meet
          case rel => exact ⟨_, (decide (x5_1 < (a1.size : Int))), (by first | rfl | (simp; done) | (simp [*]; done) | (simp; exact TabW.bclose _ _)), H', ⟨by have := HK1.out; first | omega | exact Nat.le_refl _⟩, by repeat (first | exact Drawn0.refl _ | apply Drawn0.step)⟩
        · rw [if_neg c4] at H
          have c4b0 : decide (x5_1 < (a0.size : Int)) = false := decide_eq_false c4
          clear c4
          (first | rw [c4b0] | (simp only [i64_w, i32_w]; rw [c4b0]) | skip)
          have H' := Aside0.mk H
          clear H
          go_wp2
          repeat (go_quiet (fail); try go_wp2)
          go_meet
          case rel => exact ⟨_, (false), (by first | rfl | (simp; done) | (simp [*]; done) | (simp; exact TabW.bclose _ _)), H', ⟨by have := HK1.out; first | omega | exact Nat.le_refl _⟩, by repeat (first | exact Drawn0.refl _ | apply Drawn0.step)⟩
      case rest =>
        clear HC3
        try clear p2
        try clear c3
        try clear c4
        try clear c4b0
        try clear p2
        obtain ⟨kq, x15_2, rfl, HA, HJ2, ⟨mc2, rfl⟩⟩ := hcut
        cases kq with
        | zero => exact absurd HA.out (by simp [selkieref01_Before.j1])
        | succ kj2 =>
          have H := HA.out
          clear HA
          simp only [selkieref01_Before.j1] at H
          by_cases c5 : x15_2 = true
          · subst c5
            have H1 : (if 0 ≤ x5_1 then (if x5_1 < (a0.size : Int) then (if x5_1 < (a1.size : Int) then (if (bt a0 x5_1) = (bt a1 x5_1) then (selkieref01_Before.l0 kj2 a0 a1 (wrap64 (x5_1 + 1))) else (some (decide ((bt a0 x5_1) < (bt a1 x5_1))))) else (none)) else (none)) else (none)) = some r := by rw [if_pos rfl] at H; exact H
            clear H
            have H := H1
            clear H1
            by_cases c6 : 0 ≤ x5_1
            · rw [if_pos c6] at H
              have c6b0 : decide (0 ≤ x5_1) = true := decide_eq_true c6
              clear c6
              by_cases c7 : x5_1 < (a0.size : Int)
              · rw [if_pos c7] at H
                have c7b0 : decide (x5_1 < (a0.size : Int)) = true := decide_eq_true c7
                clear c7
                by_cases c9 : x5_1 < (a1.size : Int)
                · rw [if_pos c9] at H
                  have c9b0 : decide (x5_1 < (a1.size : Int)) = true := decide_eq_true c9
                  clear c9
                  by_cases c11 : (bt a0 x5_1) = (bt a1 x5_1)
                  · rw [if_pos c11] at H
                    have c11b0 : ((bt a0 x5_1) == (bt a1 x5_1)) = true := beq_iff_eq.mpr c11
                    have c11b1 : ((bt a0 x5_1) != (bt a1 x5_1)) = false := bne_eq_false_iff_eq.mpr c11
                    clear c11
                    have H' := Aside0.mk H
                    clear H
                    have p8 : 0 ≤ (x5_1 : Int) := of_decide_eq_true (by first | (with_reducible assumption) | assumption)
                    have q8 : x5_1 < (a0.size : Int) := of_decide_eq_true (by first | (with_reducible assumption) | assumption)
                    have hx8 := bt_at a0 x5_1
                    replace p8 := eq_true p8
                    replace q8 := eq_true q8
                    have p10 : 0 ≤ (x5_1 : Int) := of_decide_eq_true (by first | (with_reducible assumption) | assumption)
                    have q10 : x5_1 < (a1.size : Int) := of_decide_eq_true (by first | (with_reducible assumption) | assumption)
                    have hx10 := bt_at a1 x5_1
                    replace p10 := eq_true p10
                    replace q10 := eq_true q10
                    go_wp2
                    repeat (go_quiet (fail); try go_wp2)
                    go_roundg kj2
                    case measure => have := HK1.out; have := HJ2.out; omega
                    case rel => exact ⟨(wrap64 (x5_1 + 1)), (by first | rfl | (simp; done) | (simp [*]; done) | (simp; exact TabW.bclose _ _)), H', ⟨by have := HK1.out; have := HJ2.out; omega⟩, by repeat (first | exact Drawn0.refl _ | apply Drawn0.step)⟩
                  · rw [if_neg c11] at H
                    have c11b0 : ((bt a0 x5_1) == (bt a1 x5_1)) = false := beq_eq_false_iff_ne.mpr c11
                    have c11b1 : ((bt a0 x5_1) != (bt a1 x5_1)) = true := bne_iff_ne.mpr c11
                    obtain rfl := Option.some.inj H
                    have p8 : 0 ≤ (x5_1 : Int) := of_decide_eq_true (by first | (with_reducible assumption) | assumption)
                    have q8 : x5_1 < (a0.size : Int) := of_decide_eq_true (by first | (with_reducible assumption) | assumption)
                    have hx8 := bt_at a0 x5_1
                    replace p8 := eq_true p8
                    replace q8 := eq_true q8
                    have p10 : 0 ≤ (x5_1 : Int) := of_decide_eq_true (by first | (with_reducible assumption) | assumption)
                    have q10 : x5_1 < (a1.size : Int) := of_decide_eq_true (by first | (with_reducible assumption) | assumption)
                    have hx10 := bt_at a1 x5_1
                    replace p10 := eq_true p10
                    replace q10 := eq_true q10
                    have p12 : 0 ≤ (x5_1 : Int) := of_decide_eq_true (by first | (with_reducible assumption) | assumption)
                    have q12 : x5_1 < (a0.size : Int) := of_decide_eq_true (by first | (with_reducible assumption) | assumption)
                    have hx12 := bt_at a0 x5_1
                    replace p12 := eq_true p12
                    replace q12 := eq_true q12
                    have p13 : 0 ≤ (x5_1 : Int) := of_decide_eq_true (by first | (with_reducible assumption) | assumption)
                    have q13 : x5_1 < (a1.size : Int) := of_decide_eq_true (by first | (with_reducible assumption) | assumption)
                    have hx13 := bt_at a1 x5_1
                    replace p13 := eq_true p13
                    replace q13 := eq_true q13
                    go_wp2
                    repeat (go_quiet (fail); try go_wp2)
                    go_ret
                    exact ⟨by first | rfl | (simp; done) | (simp [*]; done), by repeat (first | exact Drawn0.refl _ | apply Drawn0.step)⟩
                · rw [if_neg c9] at H
                  exact absurd H (by simp)
              · rw [if_neg c7] at H
                exact absurd H (by simp)
            · rw [if_neg c6] at H
              exact absurd H (by simp)
          · replace c5 := Bool.eq_false_iff.mpr c5
            subst c5
            have H1 : (some (decide ((a0.size : Int) < (a1.size : Int)))) = some r := by rw [if_neg (show ¬ (false = true) by decide)] at H; exact H
            clear H
            have H := H1
            clear H1
            obtain rfl := Option.some.inj H
            go_wp2
            repeat (go_quiet (fail); try go_wp2)
            go_ret
            exact ⟨by first | rfl | (simp; done) | (simp [*]; done), by repeat (first | exact Drawn0.refl _ | apply Drawn0.step)⟩

/-! ### selkieref01_Less: function 21 -/
def selkieref01_Less.j0 : Nat → Bool → Int → Int → ByteArray → Int → Int → ByteArray → Option (Bool × Bool)
  | 0, _, _, _, _, _, _, _ => none
  | k + 1, x13, x230000, x230001, x230002, x231000, x231001, x231002 => if x13 = true then (some (decide (x230001 < x231001), true)) else (if x230000 = 3 then (if x231000 = 3 then ((selkieref01_Before.f k x230002 x231002).bind fun t231 => (some (t231, true))) else (some (false, false))) else (some (false, false)))
def selkieref01_Less.f (k : Nat) (a0_0 : Int) (a0_1 : Int) (a0_2 : ByteArray) (a1_0 : Int) (a1_1 : Int) (a1_2 : ByteArray) : Option (Bool × Bool) := if a0_0 = 2 then (selkieref01_Less.j0 k (a1_0 == 2) a0_0 a0_1 a0_2 a1_0 a1_1 a1_2) else (selkieref01_Less.j0 k false a0_0 a0_1 a0_2 a1_0 a1_1 a1_2)
theorem selkieref01_Less.mono_l : ∀ k, (∀ y0 y1 y2 y3 y4 y5 y6, LeO (selkieref01_Less.j0 k y0 y1 y2 y3 y4 y5 y6) (selkieref01_Less.j0 (k + 1) y0 y1 y2 y3 y4 y5 y6))
  | 0 => fun _ _ _ _ _ _ _ r h => by simp [selkieref01_Less.j0] at h
  | k + 1 => by
    have ih0 := selkieref01_Less.mono_l k
    · intro y0 y1 y2 y3 y4 y5 y6
      unfold selkieref01_Less.j0
      repeat' first
      | (with_reducible exact ih0 _ _ _ _ _ _ _)
      | (with_reducible exact selkieref01_Before.mono _ _ _)
      | (with_reducible exact LeO.refl _)
      | (with_reducible exact LeO.none _)
      | (with_reducible refine LeO.ite ?_ ?_)
      | (with_reducible refine LeO.bind ?_ (fun _ => ?_))
      | exact ih0 _ _ _ _ _ _ _
      | exact selkieref01_Before.mono _ _ _
      | exact LeO.none _
      | refine LeO.ite ?_ ?_
      | refine LeO.bind ?_ (fun _ => ?_)
theorem selkieref01_Less.mono : ∀ a0 a1 a2 a3 a4 a5 k, LeO (selkieref01_Less.f k a0 a1 a2 a3 a4 a5) (selkieref01_Less.f (k + 1) a0 a1 a2 a3 a4 a5) := by
  intro a0 a1 a2 a3 a4 a5 k
  have ih0 := selkieref01_Less.mono_l k
  unfold selkieref01_Less.f
  repeat' first
      | (with_reducible exact ih0 _ _ _ _ _ _ _)
      | (with_reducible exact selkieref01_Before.mono _ _ _)
      | (with_reducible exact LeO.refl _)
      | (with_reducible exact LeO.none _)
      | (with_reducible refine LeO.ite ?_ ?_)
      | (with_reducible refine LeO.bind ?_ (fun _ => ?_))
      | exact ih0 _ _ _ _ _ _ _
      | exact selkieref01_Before.mono _ _ _
      | exact LeO.none _
      | refine LeO.ite ?_ ?_
      | refine LeO.bind ?_ (fun _ => ?_)
set_option maxHeartbeats 8000000 in
set_option maxRecDepth 100000 in
theorem selkieref01_Less.calls (k : Nat) (a0_0 : Int) (a0_1 : Int) (a0_2 : ByteArray) (a1_0 : Int) (a1_1 : Int) (a1_2 : ByteArray) (r1 : Bool) (r2 : Bool) (w : World) (h : selkieref01_Less.f k a0_0 a0_1 a0_2 a1_0 a1_1 a1_2 = some (r1, r2)) :
    Calls Tryd.prog 21 #[.agg #[.int .i64 a0_0, .int .i64 a0_1, .string a0_2], .agg #[.int .i64 a1_0, .int .i64 a1_1, .string a1_2]] w fun e w' => e = .returned (.tuple #[.bool r1, .bool r2]) ∧ Below w.heap.size w w' := by
  have hu23 := Tryd.underlying23
  have HB := Aside0.mk (Below.refl w.heap.size w)
  have H : (if a0_0 = 2 then (selkieref01_Less.j0 k (a1_0 == 2) a0_0 a0_1 a0_2 a1_0 a1_1 a1_2) else (selkieref01_Less.j0 k false a0_0 a0_1 a0_2 a1_0 a1_1 a1_2)) = some (r1, r2) := h
  clear h
  have HC3 := Aside0.mk H
  clear H
  go_enter Tryd.func21, Tryd.ntmps21
  go_upto_region 1 with (first | ((with_reducible refine gate_dst (N := 2) rfl ?_); refine box_event ?hg (N := 2) ?hd (cs := #[.int .i64 a0_0, .int .i64 a0_1, .string a0_2]) (t := 23) ?hr ?_; (case hd => rfl); (case hg => rfl); (case hr => first | (go_simp; done) | (go_simp; rfl)); intro gb229 hg w4 hbox hb; have n0_ := Aside0.mk (below_step (by repeat (first | (with_reducible first | exact HB.out | apply below_alloc | apply pw_below_drewN | apply below_drew1) | exact HB.out)) hb); have n1_ := Aside0.mk (hbox); have n2_ := Aside0.mk ((by rw [hg]; exact (below_size (by repeat (first | (with_reducible first | exact HB.out | apply below_alloc | apply pw_below_drewN | apply below_drew1) | exact HB.out))) : w.heap.size ≤ gb229)); have n3_ := Aside0.mk ((by rw [hg]; exact (below_size (by repeat (first | (with_reducible first | exact HB.out | apply below_alloc | apply pw_below_drewN | apply below_drew1) | exact HB.out))) : w.heap.size ≤ gb229)); clear HB; have HB := n0_; have BK229 := n1_; have GW229 := n2_; have GE229 := n3_; clear n0_ n1_ n2_ n3_; clear hb hbox hg) | ((with_reducible refine gate_dst (N := 3) rfl ?_); refine box_event ?hg (N := 3) ?hd (cs := #[.int .i64 a1_0, .int .i64 a1_1, .string a1_2]) (t := 23) ?hr ?_; (case hd => rfl); (case hg => rfl); (case hr => first | (go_simp; done) | (go_simp; rfl)); intro gb230 hg w5 hbox hb; have n0_ := Aside0.mk (blk_below (g := gb229) (o := .cells #[.int .i64 a0_0, .int .i64 a0_1, .string a0_2] 23 (0, 0)) (by (with_reducible repeat (first | refine blk_drewN ?_ _ | refine blk_drew ?_ | refine blk_alloc ?_ _)); exact BK229.out) hb); have n1_ := Aside0.mk (below_step (by repeat (first | (with_reducible first | exact HB.out | apply below_alloc | apply pw_below_drewN | apply below_drew1 | refine below_set ?_ GE229.out) | exact HB.out)) hb); have n2_ := Aside0.mk (hbox); have n3_ := Aside0.mk ((by rw [hg]; exact (below_size (by repeat (first | (with_reducible first | exact HB.out | apply below_alloc | apply pw_below_drewN | apply below_drew1 | refine below_set ?_ GE229.out) | exact HB.out))) : w.heap.size ≤ gb230)); have n4_ := Aside0.mk ((by rw [hg]; exact (below_size (by repeat (first | (with_reducible first | exact HB.out | apply below_alloc | apply pw_below_drewN | apply below_drew1 | refine below_set ?_ GE229.out) | exact HB.out))) : w.heap.size ≤ gb230)); have n5_ := Aside0.mk ((by rw [hg]; exact Nat.ne_of_lt (blk_lt (g := gb229) (o := .cells #[.int .i64 a0_0, .int .i64 a0_1, .string a0_2] 23 (0, 0)) (by (with_reducible repeat (first | refine blk_drewN ?_ _ | refine blk_drew ?_ | refine blk_alloc ?_ _)); exact BK229.out)) : gb229 ≠ gb230)); have n6_ := Aside0.mk ((by rw [hg]; exact Nat.ne_of_gt (blk_lt (g := gb229) (o := .cells #[.int .i64 a0_0, .int .i64 a0_1, .string a0_2] 23 (0, 0)) (by (with_reducible repeat (first | refine blk_drewN ?_ _ | refine blk_drew ?_ | refine blk_alloc ?_ _)); exact BK229.out)) : gb230 ≠ gb229)); clear BK229; clear HB; have BK229 := n0_; have HB := n1_; have BK230 := n2_; have GW230 := n3_; have GE230 := n4_; have NB229_230 := n5_; have NB230_229 := n6_; clear n0_ n1_ n2_ n3_ n4_ n5_ n6_; clear hb hbox hg))
  (try simp only [Act.put, List.setIfInBounds_toArray, List.set_cons_zero, List.set_cons_succ])
  go_cut [13] (fun v13 wc => ∃ (kq : Nat) (x13_2 : Bool), v13 = .bool x13_2 ∧ Aside0 (selkieref01_Less.j0 kq x13_2 a0_0 a0_1 a0_2 a1_0 a1_1 a1_2 = some (r1, r2)) ∧ Aside0 (kq ≤ k) ∧ Aside0 (wc.heap[gb229]? = some (.cells #[.int .i64 a0_0, .int .i64 a0_1, .string a0_2] 23 (0, 0))) ∧ Aside0 (wc.heap[gb230]? = some (.cells #[.int .i64 a1_0, .int .i64 a1_1, .string a1_2] 23 (0, 0))) ∧ Aside0 (Below w.heap.size w wc))
  case first =>
    have H := HC3.out
    clear HC3
    by_cases c6 : a0_0 = 2
    · rw [if_pos c6] at H
      have c6b0 : (a0_0 == 2) = true := beq_iff_eq.mpr c6
      have c6b1 : (a0_0 != 2) = false := bne_eq_false_iff_eq.mpr c6
      clear c6
      (first | rw [c6b0] | (simp only [i64_w, i32_w]; rw [c6b0]) | skip)
      have H' := Aside0.mk H
      clear H
      have hnb7 := NB229_230.out
      have hnc7 := NB230_229.out
      have hcz8_0 : w5.cell? ⟨gb229, 0, none⟩ = some (.int .i64 a0_0) := (blk_cell BK229.out 0).trans rfl
      have hcz8_1 : w5.cell? ⟨gb229, 1, none⟩ = some (.int .i64 a0_1) := (blk_cell BK229.out 1).trans rfl
      have hcz8_2 : w5.cell? ⟨gb229, 2, none⟩ = some (.string a0_2) := (blk_cell BK229.out 2).trans rfl
      have hfz8_0 := blk_frozen BK229.out 0
      have hfz8_1 := blk_frozen BK229.out 1
      have hfz8_2 := blk_frozen BK229.out 2
      have hcz9_0 : w5.cell? ⟨gb230, 0, none⟩ = some (.int .i64 a1_0) := (blk_cell BK230.out 0).trans rfl
      have hcz9_1 : w5.cell? ⟨gb230, 1, none⟩ = some (.int .i64 a1_1) := (blk_cell BK230.out 1).trans rfl
      have hcz9_2 : w5.cell? ⟨gb230, 2, none⟩ = some (.string a1_2) := (blk_cell BK230.out 2).trans rfl
      have hfz9_0 := blk_frozen BK230.out 0
      have hfz9_1 := blk_frozen BK230.out 1
      have hfz9_2 := blk_frozen BK230.out 2
      go_wp2
      go_meet
      case rel => exact ⟨_, ((a1_0 == 2)), (by first | rfl | (simp; done) | (simp [*]; done) | (simp; exact TabW.bclose _ _)), H', ⟨by first | omega | exact Nat.le_refl _⟩, ⟨by (with_reducible repeat (first | refine blk_drewN ?_ _ | refine blk_drew ?_ | refine blk_alloc ?_ _)); exact BK229.out⟩, ⟨by (with_reducible repeat (first | refine blk_drewN ?_ _ | refine blk_drew ?_ | refine blk_alloc ?_ _)); exact BK230.out⟩, ⟨by repeat (first | (with_reducible first | exact HB.out | apply below_alloc | apply pw_below_drewN | apply below_drew1 | refine below_set ?_ GE229.out | refine below_set ?_ GE230.out) | exact HB.out)⟩⟩
    · rw [if_neg c6] at H
      have c6b0 : (a0_0 == 2) = false := beq_eq_false_iff_ne.mpr c6
      have c6b1 : (a0_0 != 2) = true := bne_iff_ne.mpr c6
      (first | rw [c6b0] | (simp only [i64_w, i32_w]; rw [c6b0]) | skip)
      have H' := Aside0.mk H
      clear H
      have hnb10 := NB229_230.out
      have hnc10 := NB230_229.out
      have hcz11_0 : w5.cell? ⟨gb229, 0, none⟩ = some (.int .i64 a0_0) := (blk_cell BK229.out 0).trans rfl
      have hcz11_1 : w5.cell? ⟨gb229, 1, none⟩ = some (.int .i64 a0_1) := (blk_cell BK229.out 1).trans rfl
      have hcz11_2 : w5.cell? ⟨gb229, 2, none⟩ = some (.string a0_2) := (blk_cell BK229.out 2).trans rfl
      have hfz11_0 := blk_frozen BK229.out 0
      have hfz11_1 := blk_frozen BK229.out 1
      have hfz11_2 := blk_frozen BK229.out 2
      go_wp2
      go_meet
      case rel => exact ⟨_, (false), (by first | rfl | (simp; done) | (simp [*]; done) | (simp; exact TabW.bclose _ _)), H', ⟨by first | omega | exact Nat.le_refl _⟩, ⟨by (with_reducible repeat (first | refine blk_drewN ?_ _ | refine blk_drew ?_ | refine blk_alloc ?_ _)); exact BK229.out⟩, ⟨by (with_reducible repeat (first | refine blk_drewN ?_ _ | refine blk_drew ?_ | refine blk_alloc ?_ _)); exact BK230.out⟩, ⟨by repeat (first | (with_reducible first | exact HB.out | apply below_alloc | apply pw_below_drewN | apply below_drew1 | refine below_set ?_ GE229.out | refine below_set ?_ GE230.out) | exact HB.out)⟩⟩
  case rest =>
    clear HC3
    try clear c1
    try clear c2
    try clear p2
    try clear c6
    try clear c6b0
    try clear c6b1
    try clear c7
    try clear c10
    try clear hcz11_0
    try clear hcz11_1
    try clear hcz11_2
    try clear hcz8_0
    try clear hcz8_1
    try clear hcz8_2
    try clear hcz9_0
    try clear hcz9_1
    try clear hcz9_2
    try clear hfz11_0
    try clear hfz11_1
    try clear hfz11_2
    try clear hfz8_0
    try clear hfz8_1
    try clear hfz8_2
    try clear hfz9_0
    try clear hfz9_1
    try clear hfz9_2
    obtain ⟨kq, x13_2, rfl, HA, HJ2, BK229, BK230, HB⟩ := hcut
    cases kq with
    | zero => exact absurd HA.out (by simp [selkieref01_Less.j0])
    | succ kj2 =>
      have H := HA.out
      clear HA
      simp only [selkieref01_Less.j0] at H
      by_cases c12 : x13_2 = true
      · subst c12
        have H1 : (some (decide (a0_1 < a1_1), true)) = some (r1, r2) := by rw [if_pos rfl] at H; exact H
        clear H
        have H := H1
        clear H1
        simp only [Option.some.injEq, Prod.mk.injEq] at H
        obtain ⟨rfl, rfl⟩ := H
        have hnb13 := NB229_230.out
        have hnc13 := NB230_229.out
        have hcz14_0 : wc.cell? ⟨gb229, 0, none⟩ = some (.int .i64 a0_0) := (blk_cell BK229.out 0).trans rfl
        have hcz14_1 : wc.cell? ⟨gb229, 1, none⟩ = some (.int .i64 a0_1) := (blk_cell BK229.out 1).trans rfl
        have hcz14_2 : wc.cell? ⟨gb229, 2, none⟩ = some (.string a0_2) := (blk_cell BK229.out 2).trans rfl
        have hfz14_0 := blk_frozen BK229.out 0
        have hfz14_1 := blk_frozen BK229.out 1
        have hfz14_2 := blk_frozen BK229.out 2
        have hcz15_0 : wc.cell? ⟨gb230, 0, none⟩ = some (.int .i64 a1_0) := (blk_cell BK230.out 0).trans rfl
        have hcz15_1 : wc.cell? ⟨gb230, 1, none⟩ = some (.int .i64 a1_1) := (blk_cell BK230.out 1).trans rfl
        have hcz15_2 : wc.cell? ⟨gb230, 2, none⟩ = some (.string a1_2) := (blk_cell BK230.out 2).trans rfl
        have hfz15_0 := blk_frozen BK230.out 0
        have hfz15_1 := blk_frozen BK230.out 1
        have hfz15_2 := blk_frozen BK230.out 2
        go_wp2
        go_ret2
        exact ⟨by first | rfl | (simp [errW_none, errW_some] <;> rfl) | (simp [*, errW_none, errW_some] <;> rfl), by repeat (first | (with_reducible first | exact HB.out | apply below_alloc | apply pw_below_drewN | apply below_drew1 | refine below_set ?_ GE229.out | refine below_set ?_ GE230.out) | exact HB.out)⟩
      · replace c12 := Bool.eq_false_iff.mpr c12
        subst c12
        have H1 : (if a0_0 = 3 then (if a1_0 = 3 then ((selkieref01_Before.f kj2 a0_2 a1_2).bind fun t231 => (some (t231, true))) else (some (false, false))) else (some (false, false))) = some (r1, r2) := by rw [if_neg (show ¬ (false = true) by decide)] at H; exact H
        clear H
        have H := H1
        clear H1
        by_cases c16 : a0_0 = 3
        · rw [if_pos c16] at H
          have c16b0 : (a0_0 == 3) = true := beq_iff_eq.mpr c16
          have c16b1 : (a0_0 != 3) = false := bne_eq_false_iff_eq.mpr c16
          clear c16
          by_cases c17 : a1_0 = 3
          · rw [if_pos c17] at H
            have c17b0 : (a1_0 == 3) = true := beq_iff_eq.mpr c17
            have c17b1 : (a1_0 != 3) = false := bne_eq_false_iff_eq.mpr c17
            clear c17
            replace H := Option.bind_eq_some_iff.mp H
            obtain ⟨t231, A180, H⟩ := H
            replace H : (some (t231, true)) = some (r1, r2) := H
            have A18 := Aside0.mk A180
            clear A180
            simp only [Option.some.injEq, Prod.mk.injEq] at H
            obtain ⟨rfl, rfl⟩ := H
            have hnb19 := NB229_230.out
            have hnc19 := NB230_229.out
            have hcz20_0 : wc.cell? ⟨gb229, 0, none⟩ = some (.int .i64 a0_0) := (blk_cell BK229.out 0).trans rfl
            have hcz20_1 : wc.cell? ⟨gb229, 1, none⟩ = some (.int .i64 a0_1) := (blk_cell BK229.out 1).trans rfl
            have hcz20_2 : wc.cell? ⟨gb229, 2, none⟩ = some (.string a0_2) := (blk_cell BK229.out 2).trans rfl
            have hfz20_0 := blk_frozen BK229.out 0
            have hfz20_1 := blk_frozen BK229.out 1
            have hfz20_2 := blk_frozen BK229.out 2
            have hcz21_0 : wc.cell? ⟨gb230, 0, none⟩ = some (.int .i64 a1_0) := (blk_cell BK230.out 0).trans rfl
            have hcz21_1 : wc.cell? ⟨gb230, 1, none⟩ = some (.int .i64 a1_1) := (blk_cell BK230.out 1).trans rfl
            have hcz21_2 : wc.cell? ⟨gb230, 2, none⟩ = some (.string a1_2) := (blk_cell BK230.out 2).trans rfl
            have hfz21_0 := blk_frozen BK230.out 0
            have hfz21_1 := blk_frozen BK230.out 1
            have hfz21_2 := blk_frozen BK230.out 2
            go_wp2_with (first | ((with_reducible refine gate_callee (f := 32) rfl ?_); refine goesL_ (some 31) rfl rfl Tryd.func32 (by kernel_rfl) rfl #[.string a0_2, .string a1_2] rfl (by (try simp only [List.map_toArray, List.map_cons, List.map_nil]); first | done | rfl | (simp only [List.length_drop, List.length_take]; rfl)) ?_; (with_reducible refine (selkieref01_Before.calls kj2 a0_2 a1_2 t231 _ A18.out).mono ?_); rintro e w' ⟨rfl, ⟨nd, rfl⟩⟩; refine ⟨_, rfl, ?_⟩))
            go_ret2
            exact ⟨by first | rfl | (simp [errW_none, errW_some] <;> rfl) | (simp [*, errW_none, errW_some] <;> rfl), by repeat (first | (with_reducible first | exact HB.out | apply below_alloc | apply pw_below_drewN | apply below_drew1 | refine below_set ?_ GE229.out | refine below_set ?_ GE230.out) | exact HB.out)⟩
          · rw [if_neg c17] at H
            have c17b0 : (a1_0 == 3) = false := beq_eq_false_iff_ne.mpr c17
            have c17b1 : (a1_0 != 3) = true := bne_iff_ne.mpr c17
            simp only [Option.some.injEq, Prod.mk.injEq] at H
            obtain ⟨rfl, rfl⟩ := H
            have hnb22 := NB229_230.out
            have hnc22 := NB230_229.out
            have hcz23_0 : wc.cell? ⟨gb229, 0, none⟩ = some (.int .i64 a0_0) := (blk_cell BK229.out 0).trans rfl
            have hcz23_1 : wc.cell? ⟨gb229, 1, none⟩ = some (.int .i64 a0_1) := (blk_cell BK229.out 1).trans rfl
            have hcz23_2 : wc.cell? ⟨gb229, 2, none⟩ = some (.string a0_2) := (blk_cell BK229.out 2).trans rfl
            have hfz23_0 := blk_frozen BK229.out 0
            have hfz23_1 := blk_frozen BK229.out 1
            have hfz23_2 := blk_frozen BK229.out 2
            have hcz24_0 : wc.cell? ⟨gb230, 0, none⟩ = some (.int .i64 a1_0) := (blk_cell BK230.out 0).trans rfl
            have hcz24_1 : wc.cell? ⟨gb230, 1, none⟩ = some (.int .i64 a1_1) := (blk_cell BK230.out 1).trans rfl
            have hcz24_2 : wc.cell? ⟨gb230, 2, none⟩ = some (.string a1_2) := (blk_cell BK230.out 2).trans rfl
            have hfz24_0 := blk_frozen BK230.out 0
            have hfz24_1 := blk_frozen BK230.out 1
            have hfz24_2 := blk_frozen BK230.out 2
            go_wp2
            go_ret2
            exact ⟨by first | rfl | (simp [errW_none, errW_some] <;> rfl) | (simp [*, errW_none, errW_some] <;> rfl), by repeat (first | (with_reducible first | exact HB.out | apply below_alloc | apply pw_below_drewN | apply below_drew1 | refine below_set ?_ GE229.out | refine below_set ?_ GE230.out) | exact HB.out)⟩
        · rw [if_neg c16] at H
          have c16b0 : (a0_0 == 3) = false := beq_eq_false_iff_ne.mpr c16
          have c16b1 : (a0_0 != 3) = true := bne_iff_ne.mpr c16
          simp only [Option.some.injEq, Prod.mk.injEq] at H
          obtain ⟨rfl, rfl⟩ := H
          have hnb25 := NB229_230.out
          have hnc25 := NB230_229.out
          have hcz26_0 : wc.cell? ⟨gb229, 0, none⟩ = some (.int .i64 a0_0) := (blk_cell BK229.out 0).trans rfl
          have hcz26_1 : wc.cell? ⟨gb229, 1, none⟩ = some (.int .i64 a0_1) := (blk_cell BK229.out 1).trans rfl
          have hcz26_2 : wc.cell? ⟨gb229, 2, none⟩ = some (.string a0_2) := (blk_cell BK229.out 2).trans rfl
          have hfz26_0 := blk_frozen BK229.out 0
          have hfz26_1 := blk_frozen BK229.out 1
          have hfz26_2 := blk_frozen BK229.out 2
          go_wp2
          go_ret2
          exact ⟨by first | rfl | (simp [errW_none, errW_some] <;> rfl) | (simp [*, errW_none, errW_some] <;> rfl), by repeat (first | (with_reducible first | exact HB.out | apply below_alloc | apply pw_below_drewN | apply below_drew1 | refine below_set ?_ GE229.out | refine below_set ?_ GE230.out) | exact HB.out)⟩

/-! ### selkieref01_Raw: function 23 -/
def selkieref01_Raw.j0 : Nat → Bool → Int → Int → ByteArray → Int → Int → ByteArray → Option (Bool)
  | 0, _, _, _, _, _, _, _ => none
  | k + 1, x17, x233000, x233001, x233002, x234000, x234001, x234002 => if x17 = true then (some false) else (if x233000 = 0 then (some true) else (if x233000 = 1 then (some ((x233001 == 0) == (x234001 == 0))) else (if x233000 = 3 then (some (x233002.toList == x234002.toList)) else (some (x233001 == x234001)))))
def selkieref01_Raw.f (k : Nat) (a0_0 : Int) (a0_1 : Int) (a0_2 : ByteArray) (a1_0 : Int) (a1_1 : Int) (a1_2 : ByteArray) : Option (Bool) := (selkieref01_strange.f a0_0 a0_1 a0_2).bind fun t234 => (if t234 = true then (selkieref01_Raw.j0 k true a0_0 a0_1 a0_2 a1_0 a1_1 a1_2) else ((selkieref01_strange.f a1_0 a1_1 a1_2).bind fun t235 => (if t235 = true then (selkieref01_Raw.j0 k true a0_0 a0_1 a0_2 a1_0 a1_1 a1_2) else (selkieref01_Raw.j0 k (a0_0 != a1_0) a0_0 a0_1 a0_2 a1_0 a1_1 a1_2))))
theorem selkieref01_Raw.mono_l : ∀ k, (∀ y0 y1 y2 y3 y4 y5 y6, LeO (selkieref01_Raw.j0 k y0 y1 y2 y3 y4 y5 y6) (selkieref01_Raw.j0 (k + 1) y0 y1 y2 y3 y4 y5 y6))
  | 0 => fun _ _ _ _ _ _ _ r h => by simp [selkieref01_Raw.j0] at h
  | k + 1 => by
    have ih0 := selkieref01_Raw.mono_l k
    · intro y0 y1 y2 y3 y4 y5 y6
      unfold selkieref01_Raw.j0
      repeat' first
      | (with_reducible exact ih0 _ _ _ _ _ _ _)
      | (with_reducible exact LeO.refl _)
      | (with_reducible exact LeO.none _)
      | (with_reducible refine LeO.ite ?_ ?_)
      | (with_reducible refine LeO.bind ?_ (fun _ => ?_))
      | exact ih0 _ _ _ _ _ _ _
      | exact LeO.none _
      | refine LeO.ite ?_ ?_
      | refine LeO.bind ?_ (fun _ => ?_)
theorem selkieref01_Raw.mono : ∀ a0 a1 a2 a3 a4 a5 k, LeO (selkieref01_Raw.f k a0 a1 a2 a3 a4 a5) (selkieref01_Raw.f (k + 1) a0 a1 a2 a3 a4 a5) := by
  intro a0 a1 a2 a3 a4 a5 k
  have ih0 := selkieref01_Raw.mono_l k
  unfold selkieref01_Raw.f
  repeat' first
      | (with_reducible exact ih0 _ _ _ _ _ _ _)
      | (with_reducible exact LeO.refl _)
      | (with_reducible exact LeO.none _)
      | (with_reducible refine LeO.ite ?_ ?_)
      | (with_reducible refine LeO.bind ?_ (fun _ => ?_))
      | exact ih0 _ _ _ _ _ _ _
      | exact LeO.none _
      | refine LeO.ite ?_ ?_
      | refine LeO.bind ?_ (fun _ => ?_)
set_option maxHeartbeats 8000000 in
set_option maxRecDepth 100000 in
theorem selkieref01_Raw.calls (k : Nat) (a0_0 : Int) (a0_1 : Int) (a0_2 : ByteArray) (a1_0 : Int) (a1_1 : Int) (a1_2 : ByteArray) (r : Bool) (w : World) (h : selkieref01_Raw.f k a0_0 a0_1 a0_2 a1_0 a1_1 a1_2 = some r) :
    Calls Tryd.prog 23 #[.agg #[.int .i64 a0_0, .int .i64 a0_1, .string a0_2], .agg #[.int .i64 a1_0, .int .i64 a1_1, .string a1_2]] w fun e w' => e = .returned (.bool r) ∧ Below w.heap.size w w' := by
  have hu23 := Tryd.underlying23
  have HB := Aside0.mk (Below.refl w.heap.size w)
  have H : ((selkieref01_strange.f a0_0 a0_1 a0_2).bind fun t234 => (if t234 = true then (selkieref01_Raw.j0 k true a0_0 a0_1 a0_2 a1_0 a1_1 a1_2) else ((selkieref01_strange.f a1_0 a1_1 a1_2).bind fun t235 => (if t235 = true then (selkieref01_Raw.j0 k true a0_0 a0_1 a0_2 a1_0 a1_1 a1_2) else (selkieref01_Raw.j0 k (a0_0 != a1_0) a0_0 a0_1 a0_2 a1_0 a1_1 a1_2))))) = some r := h
  clear h
  have HC3 := Aside0.mk H
  clear H
  go_enter Tryd.func23, Tryd.ntmps23
  go_upto_region 1 with (first | ((with_reducible refine gate_dst (N := 2) rfl ?_); refine box_event ?hg (N := 2) ?hd (cs := #[.int .i64 a0_0, .int .i64 a0_1, .string a0_2]) (t := 23) ?hr ?_; (case hd => rfl); (case hg => rfl); (case hr => first | (go_simp; done) | (go_simp; rfl)); intro gb232 hg w4 hbox hb; have n0_ := Aside0.mk (below_step (by repeat (first | (with_reducible first | exact HB.out | apply below_alloc | apply pw_below_drewN | apply below_drew1) | exact HB.out)) hb); have n1_ := Aside0.mk (hbox); have n2_ := Aside0.mk ((by rw [hg]; exact (below_size (by repeat (first | (with_reducible first | exact HB.out | apply below_alloc | apply pw_below_drewN | apply below_drew1) | exact HB.out))) : w.heap.size ≤ gb232)); have n3_ := Aside0.mk ((by rw [hg]; exact (below_size (by repeat (first | (with_reducible first | exact HB.out | apply below_alloc | apply pw_below_drewN | apply below_drew1) | exact HB.out))) : w.heap.size ≤ gb232)); clear HB; have HB := n0_; have BK232 := n1_; have GW232 := n2_; have GE232 := n3_; clear n0_ n1_ n2_ n3_; clear hb hbox hg) | ((with_reducible refine gate_dst (N := 3) rfl ?_); refine box_event ?hg (N := 3) ?hd (cs := #[.int .i64 a1_0, .int .i64 a1_1, .string a1_2]) (t := 23) ?hr ?_; (case hd => rfl); (case hg => rfl); (case hr => first | (go_simp; done) | (go_simp; rfl)); intro gb233 hg w5 hbox hb; have n0_ := Aside0.mk (blk_below (g := gb232) (o := .cells #[.int .i64 a0_0, .int .i64 a0_1, .string a0_2] 23 (0, 0)) (by (with_reducible repeat (first | refine blk_drewN ?_ _ | refine blk_drew ?_ | refine blk_alloc ?_ _)); exact BK232.out) hb); have n1_ := Aside0.mk (below_step (by repeat (first | (with_reducible first | exact HB.out | apply below_alloc | apply pw_below_drewN | apply below_drew1 | refine below_set ?_ GE232.out) | exact HB.out)) hb); have n2_ := Aside0.mk (hbox); have n3_ := Aside0.mk ((by rw [hg]; exact (below_size (by repeat (first | (with_reducible first | exact HB.out | apply below_alloc | apply pw_below_drewN | apply below_drew1 | refine below_set ?_ GE232.out) | exact HB.out))) : w.heap.size ≤ gb233)); have n4_ := Aside0.mk ((by rw [hg]; exact (below_size (by repeat (first | (with_reducible first | exact HB.out | apply below_alloc | apply pw_below_drewN | apply below_drew1 | refine below_set ?_ GE232.out) | exact HB.out))) : w.heap.size ≤ gb233)); have n5_ := Aside0.mk ((by rw [hg]; exact Nat.ne_of_lt (blk_lt (g := gb232) (o := .cells #[.int .i64 a0_0, .int .i64 a0_1, .string a0_2] 23 (0, 0)) (by (with_reducible repeat (first | refine blk_drewN ?_ _ | refine blk_drew ?_ | refine blk_alloc ?_ _)); exact BK232.out)) : gb232 ≠ gb233)); have n6_ := Aside0.mk ((by rw [hg]; exact Nat.ne_of_gt (blk_lt (g := gb232) (o := .cells #[.int .i64 a0_0, .int .i64 a0_1, .string a0_2] 23 (0, 0)) (by (with_reducible repeat (first | refine blk_drewN ?_ _ | refine blk_drew ?_ | refine blk_alloc ?_ _)); exact BK232.out)) : gb233 ≠ gb232)); clear BK232; clear HB; have BK232 := n0_; have HB := n1_; have BK233 := n2_; have GW233 := n3_; have GE233 := n4_; have NB232_233 := n5_; have NB233_232 := n6_; clear n0_ n1_ n2_ n3_ n4_ n5_ n6_; clear hb hbox hg))
  (try simp only [Act.put, List.setIfInBounds_toArray, List.set_cons_zero, List.set_cons_succ])
  go_cut [17] (fun v17 wc => ∃ (kq : Nat) (x17_2 : Bool), v17 = .bool x17_2 ∧ Aside0 (selkieref01_Raw.j0 kq x17_2 a0_0 a0_1 a0_2 a1_0 a1_1 a1_2 = some r) ∧ Aside0 (kq ≤ k) ∧ Aside0 (wc.heap[gb232]? = some (.cells #[.int .i64 a0_0, .int .i64 a0_1, .string a0_2] 23 (0, 0))) ∧ Aside0 (wc.heap[gb233]? = some (.cells #[.int .i64 a1_0, .int .i64 a1_1, .string a1_2] 23 (0, 0))) ∧ Aside0 (Below w.heap.size w wc))
  case first =>
    have H := HC3.out
    clear HC3
    replace H := Option.bind_eq_some_iff.mp H
    obtain ⟨t234, A60, H⟩ := H
    replace H : (if t234 = true then (selkieref01_Raw.j0 k true a0_0 a0_1 a0_2 a1_0 a1_1 a1_2) else ((selkieref01_strange.f a1_0 a1_1 a1_2).bind fun t235 => (if t235 = true then (selkieref01_Raw.j0 k true a0_0 a0_1 a0_2 a1_0 a1_1 a1_2) else (selkieref01_Raw.j0 k (a0_0 != a1_0) a0_0 a0_1 a0_2 a1_0 a1_1 a1_2)))) = some r := H
    have A6 := Aside0.mk A60
    clear A60
    by_cases c7 : t234 = true
    · subst c7
      have H1 : (selkieref01_Raw.j0 k true a0_0 a0_1 a0_2 a1_0 a1_1 a1_2) = some r := by rw [if_pos rfl] at H; exact H
      clear H
      have H := H1
      clear H1
      have H' := Aside0.mk H
      clear H
      have hnb8 := NB232_233.out
      have hnc8 := NB233_232.out
      have hcz9_0 : w5.cell? ⟨gb232, 0, none⟩ = some (.int .i64 a0_0) := (blk_cell BK232.out 0).trans rfl
      have hcz9_1 : w5.cell? ⟨gb232, 1, none⟩ = some (.int .i64 a0_1) := (blk_cell BK232.out 1).trans rfl
      have hcz9_2 : w5.cell? ⟨gb232, 2, none⟩ = some (.string a0_2) := (blk_cell BK232.out 2).trans rfl
      have hfz9_0 := blk_frozen BK232.out 0
      have hfz9_1 := blk_frozen BK232.out 1
      have hfz9_2 := blk_frozen BK232.out 2
      go_wp2_with (first | ((with_reducible refine gate_callee (f := 28) rfl ?_); refine goesL_ (some 6) rfl rfl Tryd.func28 (by kernel_rfl) rfl #[.agg #[.int .i64 a0_0, .int .i64 a0_1, .string a0_2]] rfl (by (try simp only [List.map_toArray, List.map_cons, List.map_nil]); first | done | rfl | (simp only [List.length_drop, List.length_take]; rfl)) ?_; (with_reducible refine (selkieref01_strange.calls a0_0 a0_1 a0_2 true _ A6.out).mono ?_); rintro e w10 ⟨rfl, hb⟩; refine ⟨_, rfl, ?_⟩; have n0_ := Aside0.mk (blk_below (g := gb232) (o := .cells #[.int .i64 a0_0, .int .i64 a0_1, .string a0_2] 23 (0, 0)) (by (with_reducible repeat (first | refine blk_drewN ?_ _ | refine blk_drew ?_ | refine blk_alloc ?_ _)); exact BK232.out) hb); have n1_ := Aside0.mk (blk_below (g := gb233) (o := .cells #[.int .i64 a1_0, .int .i64 a1_1, .string a1_2] 23 (0, 0)) (by (with_reducible repeat (first | refine blk_drewN ?_ _ | refine blk_drew ?_ | refine blk_alloc ?_ _)); exact BK233.out) hb); have n2_ := Aside0.mk (below_step (by repeat (first | (with_reducible first | exact HB.out | apply below_alloc | apply pw_below_drewN | apply below_drew1 | refine below_set ?_ GE232.out | refine below_set ?_ GE233.out) | exact HB.out)) hb); clear BK232; clear BK233; clear HB; have BK232 := n0_; have BK233 := n1_; have HB := n2_; clear n0_ n1_ n2_; (try clear hb); (try clear hb2); (try clear hk); (try clear hi)))
      go_meet
      case rel => exact ⟨_, (true), (by first | rfl | (simp; done) | (simp [*]; done) | (simp; exact TabW.bclose _ _)), H', ⟨by first | omega | exact Nat.le_refl _⟩, ⟨by (with_reducible repeat (first | refine blk_drewN ?_ _ | refine blk_drew ?_ | refine blk_alloc ?_ _)); exact BK232.out⟩, ⟨by (with_reducible repeat (first | refine blk_drewN ?_ _ | refine blk_drew ?_ | refine blk_alloc ?_ _)); exact BK233.out⟩, ⟨by repeat (first | (with_reducible first | exact HB.out | apply below_alloc | apply pw_below_drewN | apply below_drew1 | refine below_set ?_ GE232.out | refine below_set ?_ GE233.out) | exact HB.out)⟩⟩
    · replace c7 := Bool.eq_false_iff.mpr c7
      subst c7
      have H1 : ((selkieref01_strange.f a1_0 a1_1 a1_2).bind fun t235 => (if t235 = true then (selkieref01_Raw.j0 k true a0_0 a0_1 a0_2 a1_0 a1_1 a1_2) else (selkieref01_Raw.j0 k (a0_0 != a1_0) a0_0 a0_1 a0_2 a1_0 a1_1 a1_2))) = some r := by rw [if_neg (show ¬ (false = true) by decide)] at H; exact H
      clear H
      have H := H1
      clear H1
      replace H := Option.bind_eq_some_iff.mp H
      obtain ⟨t235, A110, H⟩ := H
      replace H : (if t235 = true then (selkieref01_Raw.j0 k true a0_0 a0_1 a0_2 a1_0 a1_1 a1_2) else (selkieref01_Raw.j0 k (a0_0 != a1_0) a0_0 a0_1 a0_2 a1_0 a1_1 a1_2)) = some r := H
      have A11 := Aside0.mk A110
      clear A110
      by_cases c12 : t235 = true
      · subst c12
        have H1 : (selkieref01_Raw.j0 k true a0_0 a0_1 a0_2 a1_0 a1_1 a1_2) = some r := by rw [if_pos rfl] at H; exact H
        clear H
        have H := H1
        clear H1
        have H' := Aside0.mk H
        clear H
        have hnb13 := NB232_233.out
        have hnc13 := NB233_232.out
        have hcz14_0 : w5.cell? ⟨gb232, 0, none⟩ = some (.int .i64 a0_0) := (blk_cell BK232.out 0).trans rfl
        have hcz14_1 : w5.cell? ⟨gb232, 1, none⟩ = some (.int .i64 a0_1) := (blk_cell BK232.out 1).trans rfl
        have hcz14_2 : w5.cell? ⟨gb232, 2, none⟩ = some (.string a0_2) := (blk_cell BK232.out 2).trans rfl
        have hfz14_0 := blk_frozen BK232.out 0
        have hfz14_1 := blk_frozen BK232.out 1
        have hfz14_2 := blk_frozen BK232.out 2
        go_wp2_with (first | ((with_reducible refine gate_callee (f := 28) rfl ?_); refine goesL_ (some 6) rfl rfl Tryd.func28 (by kernel_rfl) rfl #[.agg #[.int .i64 a0_0, .int .i64 a0_1, .string a0_2]] rfl (by (try simp only [List.map_toArray, List.map_cons, List.map_nil]); first | done | rfl | (simp only [List.length_drop, List.length_take]; rfl)) ?_; (with_reducible refine (selkieref01_strange.calls a0_0 a0_1 a0_2 false _ A6.out).mono ?_); rintro e w15 ⟨rfl, hb⟩; refine ⟨_, rfl, ?_⟩; have n0_ := Aside0.mk (blk_below (g := gb232) (o := .cells #[.int .i64 a0_0, .int .i64 a0_1, .string a0_2] 23 (0, 0)) (by (with_reducible repeat (first | refine blk_drewN ?_ _ | refine blk_drew ?_ | refine blk_alloc ?_ _)); exact BK232.out) hb); have n1_ := Aside0.mk (blk_below (g := gb233) (o := .cells #[.int .i64 a1_0, .int .i64 a1_1, .string a1_2] 23 (0, 0)) (by (with_reducible repeat (first | refine blk_drewN ?_ _ | refine blk_drew ?_ | refine blk_alloc ?_ _)); exact BK233.out) hb); have n2_ := Aside0.mk (below_step (by repeat (first | (with_reducible first | exact HB.out | apply below_alloc | apply pw_below_drewN | apply below_drew1 | refine below_set ?_ GE232.out | refine below_set ?_ GE233.out) | exact HB.out)) hb); clear BK232; clear BK233; clear HB; have BK232 := n0_; have BK233 := n1_; have HB := n2_; clear n0_ n1_ n2_; (try clear hb); (try clear hb2); (try clear hk); (try clear hi); have hcz16_0 : w15.cell? ⟨gb233, 0, none⟩ = some (.int .i64 a1_0) := (blk_cell BK233.out 0).trans rfl; have hcz16_1 : w15.cell? ⟨gb233, 1, none⟩ = some (.int .i64 a1_1) := (blk_cell BK233.out 1).trans rfl; have hcz16_2 : w15.cell? ⟨gb233, 2, none⟩ = some (.string a1_2) := (blk_cell BK233.out 2).trans rfl; have hfz16_0 := blk_frozen BK233.out 0; have hfz16_1 := blk_frozen BK233.out 1; have hfz16_2 := blk_frozen BK233.out 2) | (go_at_call 28; (with_reducible refine (selkieref01_strange.calls a1_0 a1_1 a1_2 true _ A11.out).mono ?_); rintro e w17 ⟨rfl, hb⟩; have n0_ := Aside0.mk (blk_below (g := gb232) (o := .cells #[.int .i64 a0_0, .int .i64 a0_1, .string a0_2] 23 (0, 0)) (by (with_reducible repeat (first | refine blk_drewN ?_ _ | refine blk_drew ?_ | refine blk_alloc ?_ _)); exact BK232.out) hb); have n1_ := Aside0.mk (blk_below (g := gb233) (o := .cells #[.int .i64 a1_0, .int .i64 a1_1, .string a1_2] 23 (0, 0)) (by (with_reducible repeat (first | refine blk_drewN ?_ _ | refine blk_drew ?_ | refine blk_alloc ?_ _)); exact BK233.out) hb); have n2_ := Aside0.mk (below_step (by repeat (first | (with_reducible first | exact HB.out | apply below_alloc | apply pw_below_drewN | apply below_drew1 | refine below_set ?_ GE232.out | refine below_set ?_ GE233.out) | exact HB.out)) hb); clear BK232; clear BK233; clear HB; have BK232 := n0_; have BK233 := n1_; have HB := n2_; clear n0_ n1_ n2_; (try clear hb); (try clear hb2); (try clear hk); (try clear hi)))
        go_meet
        case rel => exact ⟨_, (true), (by first | rfl | (simp; done) | (simp [*]; done) | (simp; exact TabW.bclose _ _)), H', ⟨by first | omega | exact Nat.le_refl _⟩, ⟨by (with_reducible repeat (first | refine blk_drewN ?_ _ | refine blk_drew ?_ | refine blk_alloc ?_ _)); exact BK232.out⟩, ⟨by (with_reducible repeat (first | refine blk_drewN ?_ _ | refine blk_drew ?_ | refine blk_alloc ?_ _)); exact BK233.out⟩, ⟨by repeat (first | (with_reducible first | exact HB.out | apply below_alloc | apply pw_below_drewN | apply below_drew1 | refine below_set ?_ GE232.out | refine below_set ?_ GE233.out) | exact HB.out)⟩⟩
      · replace c12 := Bool.eq_false_iff.mpr c12
        subst c12
        have H1 : (selkieref01_Raw.j0 k (a0_0 != a1_0) a0_0 a0_1 a0_2 a1_0 a1_1 a1_2) = some r := by rw [if_neg (show ¬ (false = true) by decide)] at H; exact H
        clear H
        have H := H1
        clear H1
        have H' := Aside0.mk H
        clear H
        have hnb18 := NB232_233.out
        have hnc18 := NB233_232.out
        have hcz19_0 : w5.cell? ⟨gb232, 0, none⟩ = some (.int .i64 a0_0) := (blk_cell BK232.out 0).trans rfl
        have hcz19_1 : w5.cell? ⟨gb232, 1, none⟩ = some (.int .i64 a0_1) := (blk_cell BK232.out 1).trans rfl
        have hcz19_2 : w5.cell? ⟨gb232, 2, none⟩ = some (.string a0_2) := (blk_cell BK232.out 2).trans rfl
        have hfz19_0 := blk_frozen BK232.out 0
        have hfz19_1 := blk_frozen BK232.out 1
        have hfz19_2 := blk_frozen BK232.out 2
        go_wp2_with (first | ((with_reducible refine gate_callee (f := 28) rfl ?_); refine goesL_ (some 6) rfl rfl Tryd.func28 (by kernel_rfl) rfl #[.agg #[.int .i64 a0_0, .int .i64 a0_1, .string a0_2]] rfl (by (try simp only [List.map_toArray, List.map_cons, List.map_nil]); first | done | rfl | (simp only [List.length_drop, List.length_take]; rfl)) ?_; (with_reducible refine (selkieref01_strange.calls a0_0 a0_1 a0_2 false _ A6.out).mono ?_); rintro e w20 ⟨rfl, hb⟩; refine ⟨_, rfl, ?_⟩; have n0_ := Aside0.mk (blk_below (g := gb232) (o := .cells #[.int .i64 a0_0, .int .i64 a0_1, .string a0_2] 23 (0, 0)) (by (with_reducible repeat (first | refine blk_drewN ?_ _ | refine blk_drew ?_ | refine blk_alloc ?_ _)); exact BK232.out) hb); have n1_ := Aside0.mk (blk_below (g := gb233) (o := .cells #[.int .i64 a1_0, .int .i64 a1_1, .string a1_2] 23 (0, 0)) (by (with_reducible repeat (first | refine blk_drewN ?_ _ | refine blk_drew ?_ | refine blk_alloc ?_ _)); exact BK233.out) hb); have n2_ := Aside0.mk (below_step (by repeat (first | (with_reducible first | exact HB.out | apply below_alloc | apply pw_below_drewN | apply below_drew1 | refine below_set ?_ GE232.out | refine below_set ?_ GE233.out) | exact HB.out)) hb); clear BK232; clear BK233; clear HB; have BK232 := n0_; have BK233 := n1_; have HB := n2_; clear n0_ n1_ n2_; (try clear hb); (try clear hb2); (try clear hk); (try clear hi); have hcz21_0 : w20.cell? ⟨gb233, 0, none⟩ = some (.int .i64 a1_0) := (blk_cell BK233.out 0).trans rfl; have hcz21_1 : w20.cell? ⟨gb233, 1, none⟩ = some (.int .i64 a1_1) := (blk_cell BK233.out 1).trans rfl; have hcz21_2 : w20.cell? ⟨gb233, 2, none⟩ = some (.string a1_2) := (blk_cell BK233.out 2).trans rfl; have hfz21_0 := blk_frozen BK233.out 0; have hfz21_1 := blk_frozen BK233.out 1; have hfz21_2 := blk_frozen BK233.out 2) | (go_at_call 28; (with_reducible refine (selkieref01_strange.calls a1_0 a1_1 a1_2 false _ A11.out).mono ?_); rintro e w22 ⟨rfl, hb⟩; have n0_ := Aside0.mk (blk_below (g := gb232) (o := .cells #[.int .i64 a0_0, .int .i64 a0_1, .string a0_2] 23 (0, 0)) (by (with_reducible repeat (first | refine blk_drewN ?_ _ | refine blk_drew ?_ | refine blk_alloc ?_ _)); exact BK232.out) hb); have n1_ := Aside0.mk (blk_below (g := gb233) (o := .cells #[.int .i64 a1_0, .int .i64 a1_1, .string a1_2] 23 (0, 0)) (by (with_reducible repeat (first | refine blk_drewN ?_ _ | refine blk_drew ?_ | refine blk_alloc ?_ _)); exact BK233.out) hb); have n2_ := Aside0.mk (below_step (by repeat (first | (with_reducible first | exact HB.out | apply below_alloc | apply pw_below_drewN | apply below_drew1 | refine below_set ?_ GE232.out | refine below_set ?_ GE233.out) | exact HB.out)) hb); clear BK232; clear BK233; clear HB; have BK232 := n0_; have BK233 := n1_; have HB := n2_; clear n0_ n1_ n2_; (try clear hb); (try clear hb2); (try clear hk); (try clear hi); have hcz23_0 : w22.cell? ⟨gb232, 0, none⟩ = some (.int .i64 a0_0) := (blk_cell BK232.out 0).trans rfl; have hcz23_1 : w22.cell? ⟨gb232, 1, none⟩ = some (.int .i64 a0_1) := (blk_cell BK232.out 1).trans rfl; have hcz23_2 : w22.cell? ⟨gb232, 2, none⟩ = some (.string a0_2) := (blk_cell BK232.out 2).trans rfl; have hfz23_0 := blk_frozen BK232.out 0; have hfz23_1 := blk_frozen BK232.out 1; have hfz23_2 := blk_frozen BK232.out 2; have hcz24_0 : w22.cell? ⟨gb233, 0, none⟩ = some (.int .i64 a1_0) := (blk_cell BK233.out 0).trans rfl; have hcz24_1 : w22.cell? ⟨gb233, 1, none⟩ = some (.int .i64 a1_1) := (blk_cell BK233.out 1).trans rfl; have hcz24_2 : w22.cell? ⟨gb233, 2, none⟩ = some (.string a1_2) := (blk_cell BK233.out 2).trans rfl; have hfz24_0 := blk_frozen BK233.out 0; have hfz24_1 := blk_frozen BK233.out 1; have hfz24_2 := blk_frozen BK233.out 2))
        go_meet
        case rel => exact ⟨_, ((a0_0 != a1_0)), (by first | rfl | (simp; done) | (simp [*]; done) | (simp; exact TabW.bclose _ _)), H', ⟨by first | omega | exact Nat.le_refl _⟩, ⟨by (with_reducible repeat (first | refine blk_drewN ?_ _ | refine blk_drew ?_ | refine blk_alloc ?_ _)); exact BK232.out⟩, ⟨by (with_reducible repeat (first | refine blk_drewN ?_ _ | refine blk_drew ?_ | refine blk_alloc ?_ _)); exact BK233.out⟩, ⟨by repeat (first | (with_reducible first | exact HB.out | apply below_alloc | apply pw_below_drewN | apply below_drew1 | refine below_set ?_ GE232.out | refine below_set ?_ GE233.out) | exact HB.out)⟩⟩
  case rest =>
    clear HC3
    try clear c1
    try clear c2
    try clear p2
    try clear c7
    try clear c8
    try clear c12
    try clear c13
    try clear c18
    try clear c23
    try clear hcz14_0
    try clear hcz14_1
    try clear hcz14_2
    try clear hcz16_0
    try clear hcz16_1
    try clear hcz16_2
    try clear hcz19_0
    try clear hcz19_1
    try clear hcz19_2
    try clear hcz21_0
    try clear hcz21_1
    try clear hcz21_2
    try clear hcz23_0
    try clear hcz23_1
    try clear hcz23_2
    try clear hcz24_0
    try clear hcz24_1
    try clear hcz24_2
    try clear hcz9_0
    try clear hcz9_1
    try clear hcz9_2
    try clear hfz14_0
    try clear hfz14_1
    try clear hfz14_2
    try clear hfz16_0
    try clear hfz16_1
    try clear hfz16_2
    try clear hfz19_0
    try clear hfz19_1
    try clear hfz19_2
    try clear hfz21_0
    try clear hfz21_1
    try clear hfz21_2
    try clear hfz23_0
    try clear hfz23_1
    try clear hfz23_2
    try clear hfz24_0
    try clear hfz24_1
    try clear hfz24_2
    try clear hfz9_0
    try clear hfz9_1
    try clear hfz9_2
    obtain ⟨kq, x17_2, rfl, HA, HJ2, BK232, BK233, HB⟩ := hcut
    cases kq with
    | zero => exact absurd HA.out (by simp [selkieref01_Raw.j0])
    | succ kj2 =>
      have H := HA.out
      clear HA
      simp only [selkieref01_Raw.j0] at H
      by_cases c25 : x17_2 = true
      · subst c25
        have H1 : (some false) = some r := by rw [if_pos rfl] at H; exact H
        clear H
        have H := H1
        clear H1
        obtain rfl := Option.some.inj H
        go_wp2
        go_ret
        exact ⟨by first | rfl | (simp [errW_none, errW_some] <;> rfl) | (simp [*, errW_none, errW_some] <;> rfl), by repeat (first | (with_reducible first | exact HB.out | apply below_alloc | apply pw_below_drewN | apply below_drew1 | refine below_set ?_ GE232.out | refine below_set ?_ GE233.out) | exact HB.out)⟩
      · replace c25 := Bool.eq_false_iff.mpr c25
        subst c25
        have H1 : (if a0_0 = 0 then (some true) else (if a0_0 = 1 then (some ((a0_1 == 0) == (a1_1 == 0))) else (if a0_0 = 3 then (some (a0_2.toList == a1_2.toList)) else (some (a0_1 == a1_1))))) = some r := by rw [if_neg (show ¬ (false = true) by decide)] at H; exact H
        clear H
        have H := H1
        clear H1
        by_cases c26 : a0_0 = 0
        · rw [if_pos c26] at H
          have c26b0 : (a0_0 == 0) = true := beq_iff_eq.mpr c26
          have c26b1 : (a0_0 != 0) = false := bne_eq_false_iff_eq.mpr c26
          clear c26
          obtain rfl := Option.some.inj H
          have hnb27 := NB232_233.out
          have hnc27 := NB233_232.out
          have hcz28_0 : wc.cell? ⟨gb232, 0, none⟩ = some (.int .i64 a0_0) := (blk_cell BK232.out 0).trans rfl
          have hcz28_1 : wc.cell? ⟨gb232, 1, none⟩ = some (.int .i64 a0_1) := (blk_cell BK232.out 1).trans rfl
          have hcz28_2 : wc.cell? ⟨gb232, 2, none⟩ = some (.string a0_2) := (blk_cell BK232.out 2).trans rfl
          have hfz28_0 := blk_frozen BK232.out 0
          have hfz28_1 := blk_frozen BK232.out 1
          have hfz28_2 := blk_frozen BK232.out 2
          go_wp2
          go_ret
          exact ⟨by first | rfl | (simp [errW_none, errW_some] <;> rfl) | (simp [*, errW_none, errW_some] <;> rfl), by repeat (first | (with_reducible first | exact HB.out | apply below_alloc | apply pw_below_drewN | apply below_drew1 | refine below_set ?_ GE232.out | refine below_set ?_ GE233.out) | exact HB.out)⟩
        · rw [if_neg c26] at H
          have c26b0 : (a0_0 == 0) = false := beq_eq_false_iff_ne.mpr c26
          have c26b1 : (a0_0 != 0) = true := bne_iff_ne.mpr c26
          by_cases c29 : a0_0 = 1
          · rw [if_pos c29] at H
            have c29b0 : (a0_0 == 1) = true := beq_iff_eq.mpr c29
            have c29b1 : (a0_0 != 1) = false := bne_eq_false_iff_eq.mpr c29
            clear c29
            obtain rfl := Option.some.inj H
            have hnb30 := NB232_233.out
            have hnc30 := NB233_232.out
            have hcz31_0 : wc.cell? ⟨gb232, 0, none⟩ = some (.int .i64 a0_0) := (blk_cell BK232.out 0).trans rfl
            have hcz31_1 : wc.cell? ⟨gb232, 1, none⟩ = some (.int .i64 a0_1) := (blk_cell BK232.out 1).trans rfl
            have hcz31_2 : wc.cell? ⟨gb232, 2, none⟩ = some (.string a0_2) := (blk_cell BK232.out 2).trans rfl
            have hfz31_0 := blk_frozen BK232.out 0
            have hfz31_1 := blk_frozen BK232.out 1
            have hfz31_2 := blk_frozen BK232.out 2
            have hcz32_0 : wc.cell? ⟨gb233, 0, none⟩ = some (.int .i64 a1_0) := (blk_cell BK233.out 0).trans rfl
            have hcz32_1 : wc.cell? ⟨gb233, 1, none⟩ = some (.int .i64 a1_1) := (blk_cell BK233.out 1).trans rfl
            have hcz32_2 : wc.cell? ⟨gb233, 2, none⟩ = some (.string a1_2) := (blk_cell BK233.out 2).trans rfl
            have hfz32_0 := blk_frozen BK233.out 0
            have hfz32_1 := blk_frozen BK233.out 1
            have hfz32_2 := blk_frozen BK233.out 2
            go_wp2
            go_ret
            exact ⟨by first | rfl | (simp [errW_none, errW_some] <;> rfl) | (simp [*, errW_none, errW_some] <;> rfl), by repeat (first | (with_reducible first | exact HB.out | apply below_alloc | apply pw_below_drewN | apply below_drew1 | refine below_set ?_ GE232.out | refine below_set ?_ GE233.out) | exact HB.out)⟩
          · rw [if_neg c29] at H
            have c29b0 : (a0_0 == 1) = false := beq_eq_false_iff_ne.mpr c29
            have c29b1 : (a0_0 != 1) = true := bne_iff_ne.mpr c29
            by_cases c33 : a0_0 = 3
            · rw [if_pos c33] at H
              have c33b0 : (a0_0 == 3) = true := beq_iff_eq.mpr c33
              have c33b1 : (a0_0 != 3) = false := bne_eq_false_iff_eq.mpr c33
              clear c33
              obtain rfl := Option.some.inj H
              have hnb34 := NB232_233.out
              have hnc34 := NB233_232.out
              have hcz35_0 : wc.cell? ⟨gb232, 0, none⟩ = some (.int .i64 a0_0) := (blk_cell BK232.out 0).trans rfl
              have hcz35_1 : wc.cell? ⟨gb232, 1, none⟩ = some (.int .i64 a0_1) := (blk_cell BK232.out 1).trans rfl
              have hcz35_2 : wc.cell? ⟨gb232, 2, none⟩ = some (.string a0_2) := (blk_cell BK232.out 2).trans rfl
              have hfz35_0 := blk_frozen BK232.out 0
              have hfz35_1 := blk_frozen BK232.out 1
              have hfz35_2 := blk_frozen BK232.out 2
              have hcz36_0 : wc.cell? ⟨gb233, 0, none⟩ = some (.int .i64 a1_0) := (blk_cell BK233.out 0).trans rfl
              have hcz36_1 : wc.cell? ⟨gb233, 1, none⟩ = some (.int .i64 a1_1) := (blk_cell BK233.out 1).trans rfl
              have hcz36_2 : wc.cell? ⟨gb233, 2, none⟩ = some (.string a1_2) := (blk_cell BK233.out 2).trans rfl
              have hfz36_0 := blk_frozen BK233.out 0
              have hfz36_1 := blk_frozen BK233.out 1
              have hfz36_2 := blk_frozen BK233.out 2
              go_wp2
              go_ret
              exact ⟨by first | rfl | (simp [errW_none, errW_some] <;> rfl) | (simp [*, errW_none, errW_some] <;> rfl), by repeat (first | (with_reducible first | exact HB.out | apply below_alloc | apply pw_below_drewN | apply below_drew1 | refine below_set ?_ GE232.out | refine below_set ?_ GE233.out) | exact HB.out)⟩
            · rw [if_neg c33] at H
              have c33b0 : (a0_0 == 3) = false := beq_eq_false_iff_ne.mpr c33
              have c33b1 : (a0_0 != 3) = true := bne_iff_ne.mpr c33
              obtain rfl := Option.some.inj H
              have hnb37 := NB232_233.out
              have hnc37 := NB233_232.out
              have hcz38_0 : wc.cell? ⟨gb232, 0, none⟩ = some (.int .i64 a0_0) := (blk_cell BK232.out 0).trans rfl
              have hcz38_1 : wc.cell? ⟨gb232, 1, none⟩ = some (.int .i64 a0_1) := (blk_cell BK232.out 1).trans rfl
              have hcz38_2 : wc.cell? ⟨gb232, 2, none⟩ = some (.string a0_2) := (blk_cell BK232.out 2).trans rfl
              have hfz38_0 := blk_frozen BK232.out 0
              have hfz38_1 := blk_frozen BK232.out 1
              have hfz38_2 := blk_frozen BK232.out 2
              have hcz39_0 : wc.cell? ⟨gb233, 0, none⟩ = some (.int .i64 a1_0) := (blk_cell BK233.out 0).trans rfl
              have hcz39_1 : wc.cell? ⟨gb233, 1, none⟩ = some (.int .i64 a1_1) := (blk_cell BK233.out 1).trans rfl
              have hcz39_2 : wc.cell? ⟨gb233, 2, none⟩ = some (.string a1_2) := (blk_cell BK233.out 2).trans rfl
              have hfz39_0 := blk_frozen BK233.out 0
              have hfz39_1 := blk_frozen BK233.out 1
              have hfz39_2 := blk_frozen BK233.out 2
              go_wp2
              go_ret
              exact ⟨by first | rfl | (simp [errW_none, errW_some] <;> rfl) | (simp [*, errW_none, errW_some] <;> rfl), by repeat (first | (with_reducible first | exact HB.out | apply below_alloc | apply pw_below_drewN | apply below_drew1 | refine below_set ?_ GE232.out | refine below_set ?_ GE233.out) | exact HB.out)⟩

end Go.Proofs.YtbmenmcjlidadaaDoor.PAll
