-- printed by a call of the kit's print.py over several functions of this seat (wip/pr.sh)
import Derived.Test.YtjbnlebnofnkoaaDoorPAllx0
import Derived.Test.YtjbnlebnofnkoaaDoorPAllx1
import Derived.Test.YtjbnlebnofnkoaaDoorPAllx2
import Derived.Test.YtjbnlebnofnkoaaDoorPAllx4
import Derived.Test.YtjbnlebnofnkoaaDoorPAllx5
namespace Go.Proofs.YtjbnlebnofnkoaaDoor.PAll
open Go.RowKit Go.Proofs.YtjbnlebnofnkoaaDoorW.PrintWords Go.Proofs.YtjbnlebnofnkoaaDoorW.PrintLast Go.Proofs.YtjbnlebnofnkoaaDoorW.PrintMore
attribute [local go_sem] max2_int min2_int max_two min_two max_three min_three max_four min_four   -- for this text's walks alone
set_option linter.unusedVariables false
set_option linter.unusedSimpArgs false

/-! ### selkielaw03_ConvValues: function 7 -/
def selkielaw03_ConvValues.f (k : Nat) (a0 : Int) (a1_0 : Int) (a1_1 : Int) (a1_2 : ByteArray) : Option (Bool) := (selkielaw03_alive.f k).bind fun t196 => (if t196 = true then (if (a1_2.size : Int) > 10000 then (some true) else ((conv_Number.f a1_0 a1_1 a1_2).bind fun bt197 => ((selkieref03_Number.f k a1_0 a1_1 a1_2).bind fun bt199 => ((conv_String.f a1_0 a1_1 a1_2).bind fun bt201 => ((selkieref03_String.f k a1_0 a1_1 a1_2).bind fun bt203 => (if bt197.1 = bt199.1 then (if (bt197.2 == bt199.2) = true then (if bt201.1.toList = bt203.1.toList then (if (bt201.2 == bt203.2) = true then ((conv_Print.f a0).bind fun t205 => ((selkieref01_Digits.f k a0).bind fun t206 => (some (t205.toList == t206.toList)))) else (some false)) else (some false)) else (some false)) else (some false))))))) else (some false))
theorem selkielaw03_ConvValues.mono : ∀ a0 a1 a2 a3 k, LeO (selkielaw03_ConvValues.f k a0 a1 a2 a3) (selkielaw03_ConvValues.f (k + 1) a0 a1 a2 a3) := by
  intro a0 a1 a2 a3 k
  unfold selkielaw03_ConvValues.f
  repeat' first
      | (with_reducible exact selkielaw03_alive.mono _)
      | (with_reducible exact selkieref01_Digits.mono _ _)
      | (with_reducible exact selkieref03_Number.mono _ _ _ _)
      | (with_reducible exact selkieref03_String.mono _ _ _ _)
      | (with_reducible exact LeO.refl _)
      | (with_reducible exact LeO.none _)
      | (with_reducible refine LeO.ite ?_ ?_)
      | (with_reducible refine LeO.bind ?_ (fun _ => ?_))
      | exact selkielaw03_alive.mono _
      | exact selkieref01_Digits.mono _ _
      | exact selkieref03_Number.mono _ _ _ _
      | exact selkieref03_String.mono _ _ _ _
      | exact LeO.none _
      | refine LeO.ite ?_ ?_
      | refine LeO.bind ?_ (fun _ => ?_)
set_option maxHeartbeats 8000000 in
set_option maxRecDepth 100000 in
theorem selkielaw03_ConvValues.calls (k : Nat) (a0 : Int) (a1_0 : Int) (a1_1 : Int) (a1_2 : ByteArray) (r : Bool) (w : World) (hT : Go.Proofs.YtjbnlebnofnkoaaDoor.TabW.Tab w) (hr : r = true) (h : selkielaw03_ConvValues.f k a0 a1_0 a1_1 a1_2 = some r) :
    Calls Tryd.prog 7 #[.int .i64 a0, .agg #[.int .i64 a1_0, .int .i64 a1_1, .string a1_2]] w fun e w' => e = .returned (.bool r) ∧ Below w.heap.size w w' := by
  have hu36 := Tryd.underlying36
  have HB := Aside0.mk (Below.refl w.heap.size w)
  have HR := Aside0.mk hr
  clear hr
  have HTT := Aside0.mk hT
  clear hT
  have H : ((selkielaw03_alive.f k).bind fun t196 => (if t196 = true then (if (a1_2.size : Int) > 10000 then (some true) else ((conv_Number.f a1_0 a1_1 a1_2).bind fun bt197 => ((selkieref03_Number.f k a1_0 a1_1 a1_2).bind fun bt199 => ((conv_String.f a1_0 a1_1 a1_2).bind fun bt201 => ((selkieref03_String.f k a1_0 a1_1 a1_2).bind fun bt203 => (if bt197.1 = bt199.1 then (if (bt197.2 == bt199.2) = true then (if bt201.1.toList = bt203.1.toList then (if (bt201.2 == bt203.2) = true then ((conv_Print.f a0).bind fun t205 => ((selkieref01_Digits.f k a0).bind fun t206 => (some (t205.toList == t206.toList)))) else (some false)) else (some false)) else (some false)) else (some false))))))) else (some false))) = some r := h
  clear h
  replace H := Option.bind_eq_some_iff.mp H
  obtain ⟨t196, A30, H⟩ := H
  replace H : (if t196 = true then (if (a1_2.size : Int) > 10000 then (some true) else ((conv_Number.f a1_0 a1_1 a1_2).bind fun bt197 => ((selkieref03_Number.f k a1_0 a1_1 a1_2).bind fun bt199 => ((conv_String.f a1_0 a1_1 a1_2).bind fun bt201 => ((selkieref03_String.f k a1_0 a1_1 a1_2).bind fun bt203 => (if bt197.1 = bt199.1 then (if (bt197.2 == bt199.2) = true then (if bt201.1.toList = bt203.1.toList then (if (bt201.2 == bt203.2) = true then ((conv_Print.f a0).bind fun t205 => ((selkieref01_Digits.f k a0).bind fun t206 => (some (t205.toList == t206.toList)))) else (some false)) else (some false)) else (some false)) else (some false))))))) else (some false)) = some r := H
  have A3 := Aside0.mk A30
  clear A30
  by_cases c4 : t196 = true
  · subst c4
    have H1 : (if (a1_2.size : Int) > 10000 then (some true) else ((conv_Number.f a1_0 a1_1 a1_2).bind fun bt197 => ((selkieref03_Number.f k a1_0 a1_1 a1_2).bind fun bt199 => ((conv_String.f a1_0 a1_1 a1_2).bind fun bt201 => ((selkieref03_String.f k a1_0 a1_1 a1_2).bind fun bt203 => (if bt197.1 = bt199.1 then (if (bt197.2 == bt199.2) = true then (if bt201.1.toList = bt203.1.toList then (if (bt201.2 == bt203.2) = true then ((conv_Print.f a0).bind fun t205 => ((selkieref01_Digits.f k a0).bind fun t206 => (some (t205.toList == t206.toList)))) else (some false)) else (some false)) else (some false)) else (some false))))))) = some r := by rw [if_pos rfl] at H; exact H
    clear H
    have H := H1
    clear H1
    by_cases c5 : (a1_2.size : Int) > 10000
    · rw [if_pos c5] at H
      have c5b0 : decide (10000 < (a1_2.size : Int)) = true := decide_eq_true c5
      have c5b1 : decide (10000 < a1_2.size) = true := decide_eq_true (by omega)
      clear c5
      obtain rfl := Option.some.inj H
      go_enter Tryd.func7, Tryd.ntmps7
      go_wp2_with (first | ((with_reducible refine gate_dst (N := 3) rfl ?_); refine box_event ?hg (N := 3) ?hd (cs := #[.int .i64 a1_0, .int .i64 a1_1, .string a1_2]) (t := 36) ?hr ?_; (case hd => rfl); (case hg => rfl); (case hr => first | (go_simp; done) | (go_simp; rfl)); intro gb195 hg w6 hbox hb; have n0_ := Aside0.mk (below_step (by repeat (first | (with_reducible first | exact HB.out | apply below_alloc | apply pw_below_drewN | apply below_drew1) | exact HB.out)) hb); have n1_ := Aside0.mk (hbox); have n2_ := Aside0.mk ((by rw [hg]; exact (below_size (by repeat (first | (with_reducible first | exact HB.out | apply below_alloc | apply pw_below_drewN | apply below_drew1) | exact HB.out))) : w.heap.size ≤ gb195)); have n3_ := Aside0.mk ((by rw [hg]; exact (below_size (by repeat (first | (with_reducible first | exact HB.out | apply below_alloc | apply pw_below_drewN | apply below_drew1) | exact HB.out))) : w.heap.size ≤ gb195)); clear HB; have HB := n0_; have BK195 := n1_; have GW195 := n2_; have GE195 := n3_; clear n0_ n1_ n2_ n3_; clear hb hbox hg) | ((with_reducible refine gate_callee (f := 8) rfl ?_); refine goesL_ (some 13) rfl rfl Tryd.func8 (by kernel_rfl) rfl #[] rfl (by (try simp only [List.map_toArray, List.map_cons, List.map_nil]); first | done | rfl | (simp only [List.length_drop, List.length_take]; rfl)) ?_; (with_reducible refine (selkielaw03_alive.calls k  true _ (HTT.out.on (by repeat (first | (with_reducible first | exact HB.out | apply below_alloc | apply pw_below_drewN | apply below_drew1 | refine below_set ?_ GE195.out) | exact HB.out))) A3.out).mono ?_); rintro e w7 ⟨rfl, hb⟩; refine ⟨_, rfl, ?_⟩; have n0_ := Aside0.mk (blk_below (g := gb195) (o := .cells #[.int .i64 a1_0, .int .i64 a1_1, .string a1_2] 36 (0, 0)) (by (with_reducible repeat (first | refine blk_drewN ?_ _ | refine blk_drew ?_ | refine blk_alloc ?_ _)); exact BK195.out) hb); have n1_ := Aside0.mk (below_step (by repeat (first | (with_reducible first | exact HB.out | apply below_alloc | apply pw_below_drewN | apply below_drew1 | refine below_set ?_ GE195.out) | exact HB.out)) hb); clear BK195; clear HB; have BK195 := n0_; have HB := n1_; clear n0_ n1_; (try clear hb); (try clear hb2); (try clear hk); (try clear hi); have hcz8_0 : w7.cell? ⟨gb195, 0, none⟩ = some (.int .i64 a1_0) := (blk_cell BK195.out 0).trans rfl; have hcz8_1 : w7.cell? ⟨gb195, 1, none⟩ = some (.int .i64 a1_1) := (blk_cell BK195.out 1).trans rfl; have hcz8_2 : w7.cell? ⟨gb195, 2, none⟩ = some (.string a1_2) := (blk_cell BK195.out 2).trans rfl; have hfz8_0 := blk_frozen BK195.out 0; have hfz8_1 := blk_frozen BK195.out 1; have hfz8_2 := blk_frozen BK195.out 2))
      go_ret
      exact ⟨by first | rfl | (simp [errW_none, errW_some] <;> rfl) | (simp [*, errW_none, errW_some] <;> rfl), by repeat (first | (with_reducible first | exact HB.out | apply below_alloc | apply pw_below_drewN | apply below_drew1 | refine below_set ?_ GE195.out) | exact HB.out)⟩
    · rw [if_neg c5] at H
      have c5b0 : decide (10000 < (a1_2.size : Int)) = false := decide_eq_false c5
      have c5b1 : decide (10000 < a1_2.size) = false := decide_eq_false (by omega)
      clear c5
      replace H := Option.bind_eq_some_iff.mp H
      obtain ⟨⟨t197, t198⟩, A90, H⟩ := H
      replace H : ((selkieref03_Number.f k a1_0 a1_1 a1_2).bind fun bt199 => ((conv_String.f a1_0 a1_1 a1_2).bind fun bt201 => ((selkieref03_String.f k a1_0 a1_1 a1_2).bind fun bt203 => (if t197 = bt199.1 then (if (t198 == bt199.2) = true then (if bt201.1.toList = bt203.1.toList then (if (bt201.2 == bt203.2) = true then ((conv_Print.f a0).bind fun t205 => ((selkieref01_Digits.f k a0).bind fun t206 => (some (t205.toList == t206.toList)))) else (some false)) else (some false)) else (some false)) else (some false))))) = some r := H
      have A9 := Aside0.mk A90
      clear A90
      replace H := Option.bind_eq_some_iff.mp H
      obtain ⟨⟨t199, t200⟩, A100, H⟩ := H
      replace H : ((conv_String.f a1_0 a1_1 a1_2).bind fun bt201 => ((selkieref03_String.f k a1_0 a1_1 a1_2).bind fun bt203 => (if t197 = t199 then (if (t198 == t200) = true then (if bt201.1.toList = bt203.1.toList then (if (bt201.2 == bt203.2) = true then ((conv_Print.f a0).bind fun t205 => ((selkieref01_Digits.f k a0).bind fun t206 => (some (t205.toList == t206.toList)))) else (some false)) else (some false)) else (some false)) else (some false)))) = some r := H
      have A10 := Aside0.mk A100
      clear A100
      replace H := Option.bind_eq_some_iff.mp H
      obtain ⟨⟨t201, t202⟩, A110, H⟩ := H
      replace H : ((selkieref03_String.f k a1_0 a1_1 a1_2).bind fun bt203 => (if t197 = t199 then (if (t198 == t200) = true then (if t201.toList = bt203.1.toList then (if (t202 == bt203.2) = true then ((conv_Print.f a0).bind fun t205 => ((selkieref01_Digits.f k a0).bind fun t206 => (some (t205.toList == t206.toList)))) else (some false)) else (some false)) else (some false)) else (some false))) = some r := H
      have A11 := Aside0.mk A110
      clear A110
      replace H := Option.bind_eq_some_iff.mp H
      obtain ⟨⟨t203, t204⟩, A120, H⟩ := H
      replace H : (if t197 = t199 then (if (t198 == t200) = true then (if t201.toList = t203.toList then (if (t202 == t204) = true then ((conv_Print.f a0).bind fun t205 => ((selkieref01_Digits.f k a0).bind fun t206 => (some (t205.toList == t206.toList)))) else (some false)) else (some false)) else (some false)) else (some false)) = some r := H
      have A12 := Aside0.mk A120
      clear A120
      by_cases c13 : t197 = t199
      · rw [if_pos c13] at H
        have c13b0 : (t197 == t199) = true := beq_iff_eq.mpr c13
        have c13b1 : (t197 != t199) = false := bne_eq_false_iff_eq.mpr c13
        clear c13
        by_cases c14 : (t198 == t200) = true
        · rw [if_pos c14] at H
          have c14b0 : (t198 == t200) = true := c14
          (try (have c14b1 : decide (t198 = t200) = true := by simpa using c14))
          (try (have c14b2 : (t198 == t200) = true := by simpa using c14))
          clear c14
          by_cases c15 : t201.toList = t203.toList
          · rw [if_pos c15] at H
            have c15b0 : (t201.toList == t203.toList) = true := beq_iff_eq.mpr c15
            have c15b1 : (t201.toList != t203.toList) = false := bne_eq_false_iff_eq.mpr c15
            clear c15
            by_cases c16 : (t202 == t204) = true
            · rw [if_pos c16] at H
              have c16b0 : (t202 == t204) = true := c16
              (try (have c16b1 : decide (t202 = t204) = true := by simpa using c16))
              (try (have c16b2 : (t202 == t204) = true := by simpa using c16))
              clear c16
              replace H := Option.bind_eq_some_iff.mp H
              obtain ⟨t205, A170, H⟩ := H
              replace H : ((selkieref01_Digits.f k a0).bind fun t206 => (some (t205.toList == t206.toList))) = some r := H
              have A17 := Aside0.mk A170
              clear A170
              replace H := Option.bind_eq_some_iff.mp H
              obtain ⟨t206, A180, H⟩ := H
              replace H : (some (t205.toList == t206.toList)) = some r := H
              have A18 := Aside0.mk A180
              clear A180
              obtain rfl := Option.some.inj H
              go_enter Tryd.func7, Tryd.ntmps7
              go_wp2_with (first | ((with_reducible refine gate_dst (N := 3) rfl ?_); refine box_event ?hg (N := 3) ?hd (cs := #[.int .i64 a1_0, .int .i64 a1_1, .string a1_2]) (t := 36) ?hr ?_; (case hd => rfl); (case hg => rfl); (case hr => first | (go_simp; done) | (go_simp; rfl)); intro gb195 hg w19 hbox hb; have n0_ := Aside0.mk (below_step (by repeat (first | (with_reducible first | exact HB.out | apply below_alloc | apply pw_below_drewN | apply below_drew1) | exact HB.out)) hb); have n1_ := Aside0.mk (hbox); have n2_ := Aside0.mk ((by rw [hg]; exact (below_size (by repeat (first | (with_reducible first | exact HB.out | apply below_alloc | apply pw_below_drewN | apply below_drew1) | exact HB.out))) : w.heap.size ≤ gb195)); have n3_ := Aside0.mk ((by rw [hg]; exact (below_size (by repeat (first | (with_reducible first | exact HB.out | apply below_alloc | apply pw_below_drewN | apply below_drew1) | exact HB.out))) : w.heap.size ≤ gb195)); clear HB; have HB := n0_; have BK195 := n1_; have GW195 := n2_; have GE195 := n3_; clear n0_ n1_ n2_ n3_; clear hb hbox hg) | ((with_reducible refine gate_callee (f := 8) rfl ?_); refine goesL_ (some 13) rfl rfl Tryd.func8 (by kernel_rfl) rfl #[] rfl (by (try simp only [List.map_toArray, List.map_cons, List.map_nil]); first | done | rfl | (simp only [List.length_drop, List.length_take]; rfl)) ?_; (with_reducible refine (selkielaw03_alive.calls k  true _ (HTT.out.on (by repeat (first | (with_reducible first | exact HB.out | apply below_alloc | apply pw_below_drewN | apply below_drew1 | refine below_set ?_ GE195.out) | exact HB.out))) A3.out).mono ?_); rintro e w20 ⟨rfl, hb⟩; refine ⟨_, rfl, ?_⟩; have n0_ := Aside0.mk (blk_below (g := gb195) (o := .cells #[.int .i64 a1_0, .int .i64 a1_1, .string a1_2] 36 (0, 0)) (by (with_reducible repeat (first | refine blk_drewN ?_ _ | refine blk_drew ?_ | refine blk_alloc ?_ _)); exact BK195.out) hb); have n1_ := Aside0.mk (below_step (by repeat (first | (with_reducible first | exact HB.out | apply below_alloc | apply pw_below_drewN | apply below_drew1 | refine below_set ?_ GE195.out) | exact HB.out)) hb); clear BK195; clear HB; have BK195 := n0_; have HB := n1_; clear n0_ n1_; (try clear hb); (try clear hb2); (try clear hk); (try clear hi); have hcz21_0 : w20.cell? ⟨gb195, 0, none⟩ = some (.int .i64 a1_0) := (blk_cell BK195.out 0).trans rfl; have hcz21_1 : w20.cell? ⟨gb195, 1, none⟩ = some (.int .i64 a1_1) := (blk_cell BK195.out 1).trans rfl; have hcz21_2 : w20.cell? ⟨gb195, 2, none⟩ = some (.string a1_2) := (blk_cell BK195.out 2).trans rfl; have hfz21_0 := blk_frozen BK195.out 0; have hfz21_1 := blk_frozen BK195.out 1; have hfz21_2 := blk_frozen BK195.out 2) | ((with_reducible refine gate_callee (f := 16) rfl ?_); refine goesL_ (some 21) rfl rfl Tryd.func16 (by kernel_rfl) rfl #[.agg #[.int .i64 a1_0, .int .i64 a1_1, .string a1_2]] rfl (by (try simp only [List.map_toArray, List.map_cons, List.map_nil]); first | done | rfl | (simp only [List.length_drop, List.length_take]; rfl)) ?_; (with_reducible refine (conv_Number.calls a1_0 a1_1 a1_2 t197 t198 _ (HTT.out.on (by repeat (first | (with_reducible first | exact HB.out | apply below_alloc | apply pw_below_drewN | apply below_drew1 | refine below_set ?_ GE195.out) | exact HB.out))) A9.out).mono ?_); rintro e w22 ⟨rfl, hb⟩; refine ⟨_, rfl, ?_⟩; have n0_ := Aside0.mk (blk_below (g := gb195) (o := .cells #[.int .i64 a1_0, .int .i64 a1_1, .string a1_2] 36 (0, 0)) (by (with_reducible repeat (first | refine blk_drewN ?_ _ | refine blk_drew ?_ | refine blk_alloc ?_ _)); exact BK195.out) hb); have n1_ := Aside0.mk (below_step (by repeat (first | (with_reducible first | exact HB.out | apply below_alloc | apply pw_below_drewN | apply below_drew1 | refine below_set ?_ GE195.out) | exact HB.out)) hb); clear BK195; clear HB; have BK195 := n0_; have HB := n1_; clear n0_ n1_; (try clear hb); (try clear hb2); (try clear hk); (try clear hi); have hcz23_0 : w22.cell? ⟨gb195, 0, none⟩ = some (.int .i64 a1_0) := (blk_cell BK195.out 0).trans rfl; have hcz23_1 : w22.cell? ⟨gb195, 1, none⟩ = some (.int .i64 a1_1) := (blk_cell BK195.out 1).trans rfl; have hcz23_2 : w22.cell? ⟨gb195, 2, none⟩ = some (.string a1_2) := (blk_cell BK195.out 2).trans rfl; have hfz23_0 := blk_frozen BK195.out 0; have hfz23_1 := blk_frozen BK195.out 1; have hfz23_2 := blk_frozen BK195.out 2) | ((with_reducible refine gate_callee (f := 17) rfl ?_); refine goesL_ (some 26) rfl rfl Tryd.func17 (by kernel_rfl) rfl #[.agg #[.int .i64 a1_0, .int .i64 a1_1, .string a1_2]] rfl (by (try simp only [List.map_toArray, List.map_cons, List.map_nil]); first | done | rfl | (simp only [List.length_drop, List.length_take]; rfl)) ?_; (with_reducible refine (selkieref03_Number.calls k a1_0 a1_1 a1_2 t199 t200 _ A10.out).mono ?_); rintro e w24 ⟨rfl, hb⟩; refine ⟨_, rfl, ?_⟩; have n0_ := Aside0.mk (blk_below (g := gb195) (o := .cells #[.int .i64 a1_0, .int .i64 a1_1, .string a1_2] 36 (0, 0)) (by (with_reducible repeat (first | refine blk_drewN ?_ _ | refine blk_drew ?_ | refine blk_alloc ?_ _)); exact BK195.out) hb); have n1_ := Aside0.mk (below_step (by repeat (first | (with_reducible first | exact HB.out | apply below_alloc | apply pw_below_drewN | apply below_drew1 | refine below_set ?_ GE195.out) | exact HB.out)) hb); clear BK195; clear HB; have BK195 := n0_; have HB := n1_; clear n0_ n1_; (try clear hb); (try clear hb2); (try clear hk); (try clear hi); have hcz25_0 : w24.cell? ⟨gb195, 0, none⟩ = some (.int .i64 a1_0) := (blk_cell BK195.out 0).trans rfl; have hcz25_1 : w24.cell? ⟨gb195, 1, none⟩ = some (.int .i64 a1_1) := (blk_cell BK195.out 1).trans rfl; have hcz25_2 : w24.cell? ⟨gb195, 2, none⟩ = some (.string a1_2) := (blk_cell BK195.out 2).trans rfl; have hfz25_0 := blk_frozen BK195.out 0; have hfz25_1 := blk_frozen BK195.out 1; have hfz25_2 := blk_frozen BK195.out 2) | ((with_reducible refine gate_callee (f := 18) rfl ?_); refine goesL_ (some 31) rfl rfl Tryd.func18 (by kernel_rfl) rfl #[.agg #[.int .i64 a1_0, .int .i64 a1_1, .string a1_2]] rfl (by (try simp only [List.map_toArray, List.map_cons, List.map_nil]); first | done | rfl | (simp only [List.length_drop, List.length_take]; rfl)) ?_; (with_reducible refine (conv_String.calls a1_0 a1_1 a1_2 t201 t202 _ (HTT.out.on (by repeat (first | (with_reducible first | exact HB.out | apply below_alloc | apply pw_below_drewN | apply below_drew1 | refine below_set ?_ GE195.out) | exact HB.out))) A11.out).mono ?_); rintro e w26 ⟨rfl, hb⟩; refine ⟨_, rfl, ?_⟩; have n0_ := Aside0.mk (blk_below (g := gb195) (o := .cells #[.int .i64 a1_0, .int .i64 a1_1, .string a1_2] 36 (0, 0)) (by (with_reducible repeat (first | refine blk_drewN ?_ _ | refine blk_drew ?_ | refine blk_alloc ?_ _)); exact BK195.out) hb); have n1_ := Aside0.mk (below_step (by repeat (first | (with_reducible first | exact HB.out | apply below_alloc | apply pw_below_drewN | apply below_drew1 | refine below_set ?_ GE195.out) | exact HB.out)) hb); clear BK195; clear HB; have BK195 := n0_; have HB := n1_; clear n0_ n1_; (try clear hb); (try clear hb2); (try clear hk); (try clear hi); have hcz27_0 : w26.cell? ⟨gb195, 0, none⟩ = some (.int .i64 a1_0) := (blk_cell BK195.out 0).trans rfl; have hcz27_1 : w26.cell? ⟨gb195, 1, none⟩ = some (.int .i64 a1_1) := (blk_cell BK195.out 1).trans rfl; have hcz27_2 : w26.cell? ⟨gb195, 2, none⟩ = some (.string a1_2) := (blk_cell BK195.out 2).trans rfl; have hfz27_0 := blk_frozen BK195.out 0; have hfz27_1 := blk_frozen BK195.out 1; have hfz27_2 := blk_frozen BK195.out 2) | ((with_reducible refine gate_callee (f := 19) rfl ?_); refine goesL_ (some 36) rfl rfl Tryd.func19 (by kernel_rfl) rfl #[.agg #[.int .i64 a1_0, .int .i64 a1_1, .string a1_2]] rfl (by (try simp only [List.map_toArray, List.map_cons, List.map_nil]); first | done | rfl | (simp only [List.length_drop, List.length_take]; rfl)) ?_; (with_reducible refine (selkieref03_String.calls k a1_0 a1_1 a1_2 t203 t204 _ A12.out).mono ?_); rintro e w28 ⟨rfl, hb⟩; refine ⟨_, rfl, ?_⟩; have n0_ := Aside0.mk (blk_below (g := gb195) (o := .cells #[.int .i64 a1_0, .int .i64 a1_1, .string a1_2] 36 (0, 0)) (by (with_reducible repeat (first | refine blk_drewN ?_ _ | refine blk_drew ?_ | refine blk_alloc ?_ _)); exact BK195.out) hb); have n1_ := Aside0.mk (below_step (by repeat (first | (with_reducible first | exact HB.out | apply below_alloc | apply pw_below_drewN | apply below_drew1 | refine below_set ?_ GE195.out) | exact HB.out)) hb); clear BK195; clear HB; have BK195 := n0_; have HB := n1_; clear n0_ n1_; (try clear hb); (try clear hb2); (try clear hk); (try clear hi)) | (go_at_call 15; (with_reducible refine (conv_Print.calls a0 t205 _ (HTT.out.on (by repeat (first | (with_reducible first | exact HB.out | apply below_alloc | apply pw_below_drewN | apply below_drew1 | refine below_set ?_ GE195.out) | exact HB.out))) A17.out).mono ?_); rintro e w29 ⟨rfl, hb⟩; have n0_ := Aside0.mk (blk_below (g := gb195) (o := .cells #[.int .i64 a1_0, .int .i64 a1_1, .string a1_2] 36 (0, 0)) (by (with_reducible repeat (first | refine blk_drewN ?_ _ | refine blk_drew ?_ | refine blk_alloc ?_ _)); exact BK195.out) hb); have n1_ := Aside0.mk (below_step (by repeat (first | (with_reducible first | exact HB.out | apply below_alloc | apply pw_below_drewN | apply below_drew1 | refine below_set ?_ GE195.out) | exact HB.out)) hb); clear BK195; clear HB; have BK195 := n0_; have HB := n1_; clear n0_ n1_; (try clear hb); (try clear hb2); (try clear hk); (try clear hi)) | (go_at_call 20; (with_reducible refine (selkieref01_Digits.calls k a0 t206 _ A18.out).mono ?_); rintro e w30 ⟨rfl, hb⟩; have n0_ := Aside0.mk (blk_below (g := gb195) (o := .cells #[.int .i64 a1_0, .int .i64 a1_1, .string a1_2] 36 (0, 0)) (by (with_reducible repeat (first | refine blk_drewN ?_ _ | refine blk_drew ?_ | refine blk_alloc ?_ _)); exact BK195.out) hb); have n1_ := Aside0.mk (below_step (by repeat (first | (with_reducible first | exact HB.out | apply below_alloc | apply pw_below_drewN | apply below_drew1 | refine below_set ?_ GE195.out) | exact HB.out)) hb); clear BK195; clear HB; have BK195 := n0_; have HB := n1_; clear n0_ n1_; (try clear hb); (try clear hb2); (try clear hk); (try clear hi)))
              go_ret
              exact ⟨by first | rfl | (simp [errW_none, errW_some] <;> rfl) | (simp [*, errW_none, errW_some] <;> rfl), by repeat (first | (with_reducible first | exact HB.out | apply below_alloc | apply pw_below_drewN | apply below_drew1 | refine below_set ?_ GE195.out) | exact HB.out)⟩
            · rw [if_neg c16] at H
              have c16b0 : (t202 == t204) = false := by simpa using c16
              (try (have c16b1 : decide (t202 = t204) = false := by simpa using c16))
              (try (have c16b2 : (t202 == t204) = false := by simpa using c16))
              (try (have c16b3 : ¬ (t202 = t204) := by simpa using c16))
              clear c16
              exact absurd (Option.some.inj H) (by rw [HR.out]; decide)
          · rw [if_neg c15] at H
            have c15b0 : (t201.toList == t203.toList) = false := beq_eq_false_iff_ne.mpr c15
            have c15b1 : (t201.toList != t203.toList) = true := bne_iff_ne.mpr c15
            exact absurd (Option.some.inj H) (by rw [HR.out]; decide)
        · rw [if_neg c14] at H
          have c14b0 : (t198 == t200) = false := by simpa using c14
          (try (have c14b1 : decide (t198 = t200) = false := by simpa using c14))
          (try (have c14b2 : (t198 == t200) = false := by simpa using c14))
          (try (have c14b3 : ¬ (t198 = t200) := by simpa using c14))
          clear c14
          exact absurd (Option.some.inj H) (by rw [HR.out]; decide)
      · rw [if_neg c13] at H
        have c13b0 : (t197 == t199) = false := beq_eq_false_iff_ne.mpr c13
        have c13b1 : (t197 != t199) = true := bne_iff_ne.mpr c13
        exact absurd (Option.some.inj H) (by rw [HR.out]; decide)
  · replace c4 := Bool.eq_false_iff.mpr c4
    subst c4
    have H1 : (some false) = some r := by rw [if_neg (show ¬ (false = true) by decide)] at H; exact H
    clear H
    have H := H1
    clear H1
    exact absurd (Option.some.inj H) (by rw [HR.out]; decide)

end Go.Proofs.YtjbnlebnofnkoaaDoor.PAll
