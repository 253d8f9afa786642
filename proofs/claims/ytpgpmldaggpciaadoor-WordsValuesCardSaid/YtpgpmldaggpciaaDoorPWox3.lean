-- printed by a call of the kit's print.py over several functions of this seat (wip/pr.sh)
import Derived.Test.YtpgpmldaggpciaaDoorPWox0
import Derived.Test.YtpgpmldaggpciaaDoorPWox1
import Derived.Test.YtpgpmldaggpciaaDoorPWox2
namespace Go.Proofs.YtpgpmldaggpciaaDoor.PWo
open Go.RowKit Go.Proofs.YtpgpmldaggpciaaDoorW.PrintWords Go.Proofs.YtpgpmldaggpciaaDoorW.PrintLast Go.Proofs.YtpgpmldaggpciaaDoorW.PrintMore
attribute [local go_sem] max2_int min2_int max_two min_two max_three min_three max_four min_four   -- for this text's walks alone
set_option linter.unusedVariables false
set_option linter.unusedSimpArgs false

/-! ### selkielaw10_WordsValues: function 5 -/
def selkielaw10_WordsValues.j0 : Nat → Bool → Int → Int → ByteArray → Int → Int → ByteArray → Option (Bool)
  | 0, _, _, _, _, _, _, _ => none
  | k + 1, x16, x163000, x163001, x163002, x164000, x164001, x164002 => if x16 = true then (some true) else ((words_Index.f x163000 x163001 x163002).bind fun t165 => ((selkieref10_Index.f x163000 x163001 x163002).bind fun t166 => (if t165.toList = t166.toList then ((words_Call.f x163000 x163001 x163002).bind fun t167 => ((selkieref10_Call.f x163000 x163001 x163002).bind fun t168 => (if t167.toList = t168.toList then ((words_Len.f x163000 x163001 x163002).bind fun t169 => ((selkieref10_Len.f x163000 x163001 x163002).bind fun t170 => (if t169.toList = t170.toList then ((words_Arith.f x163000 x163001 x163002 x164000 x164001 x164002).bind fun t171 => ((selkieref10_Arith.f x163000 x163001 x163002 x164000 x164001 x164002).bind fun t172 => (if t171.toList = t172.toList then ((words_Concat.f x163000 x163001 x163002 x164000 x164001 x164002).bind fun t173 => ((selkieref10_Concat.f x163000 x163001 x163002 x164000 x164001 x164002).bind fun t174 => (if t173.toList = t174.toList then ((words_Compare.f x163000 x163001 x163002 x164000 x164001 x164002).bind fun t175 => ((selkieref10_Compare.f x163000 x163001 x163002 x164000 x164001 x164002).bind fun t176 => (if t175.toList = t176.toList then ((words_Error.f x163000 x163001 x163002).bind fun t177 => ((selkieref10_Error.f x163000 x163001 x163002).bind fun t178 => (some (t177.toList == t178.toList)))) else (some false)))) else (some false)))) else (some false)))) else (some false)))) else (some false)))) else (some false))))
def selkielaw10_WordsValues.f (k : Nat) (a0_0 : Int) (a0_1 : Int) (a0_2 : ByteArray) (a1_0 : Int) (a1_1 : Int) (a1_2 : ByteArray) : Option (Bool) := (selkielaw10_alive.f).bind fun t164 => (if t164 = true then (if (a0_2.size : Int) > 10000 then (selkielaw10_WordsValues.j0 k true a0_0 a0_1 a0_2 a1_0 a1_1 a1_2) else (selkielaw10_WordsValues.j0 k (decide ((a1_2.size : Int) > 10000)) a0_0 a0_1 a0_2 a1_0 a1_1 a1_2)) else (some false))
theorem selkielaw10_WordsValues.mono_l : ∀ k, (∀ y0 y1 y2 y3 y4 y5 y6, LeO (selkielaw10_WordsValues.j0 k y0 y1 y2 y3 y4 y5 y6) (selkielaw10_WordsValues.j0 (k + 1) y0 y1 y2 y3 y4 y5 y6))
  | 0 => fun _ _ _ _ _ _ _ r h => by simp [selkielaw10_WordsValues.j0] at h
  | k + 1 => by
    have ih0 := selkielaw10_WordsValues.mono_l k
    · intro y0 y1 y2 y3 y4 y5 y6
      unfold selkielaw10_WordsValues.j0
      repeat' first
      | (with_reducible exact ih0 _ _ _ _ _ _ _)
      | (with_reducible exact LeO.refl _)
      | (with_reducible exact LeO.none _)
      | (with_reducible refine LeO.ite ?_ ?_)
      | (with_reducible refine LeO.bind ?_ (fun _ => ?_))
      | exact ih0 _ _ _ _ _ _ _
      | exact LeO.none _
      | refine LeO.ite ?_ ?_
      | refine LeO.bind ?_ (fun _ => ?_)
theorem selkielaw10_WordsValues.mono : ∀ a0 a1 a2 a3 a4 a5 k, LeO (selkielaw10_WordsValues.f k a0 a1 a2 a3 a4 a5) (selkielaw10_WordsValues.f (k + 1) a0 a1 a2 a3 a4 a5) := by
  intro a0 a1 a2 a3 a4 a5 k
  have ih0 := selkielaw10_WordsValues.mono_l k
  unfold selkielaw10_WordsValues.f
  repeat' first
      | (with_reducible exact ih0 _ _ _ _ _ _ _)
      | (with_reducible exact LeO.refl _)
      | (with_reducible exact LeO.none _)
      | (with_reducible refine LeO.ite ?_ ?_)
      | (with_reducible refine LeO.bind ?_ (fun _ => ?_))
      | exact ih0 _ _ _ _ _ _ _
      | exact LeO.none _
      | refine LeO.ite ?_ ?_
      | refine LeO.bind ?_ (fun _ => ?_)
def selkielaw10_WordsValues.T5 : Bool × List (List Nat × List Nat) := (true, [([], []), ([0], [0]), ([], []), ([2, 1], [2]), ([1, 3], [1, 3]), ([4, 3], [4]), ([5], [5]), ([6, 5, 5], [5, 6]), ([5], [5]), ([8, 7, 5], [5, 8]), ([7, 9, 5], [5, 7, 9]), ([5, 10], [5, 10]), ([11, 9], [11]), ([12], [12]), ([13, 12, 12], [12, 13]), ([12], [12]), ([15, 14, 12], [12, 15]), ([14, 16, 12], [12, 14, 16]), ([12, 17], [12, 17]), ([18, 16], [18]), ([19], [19]), ([19], [19]), ([20, 21, 19, 19], [19, 20, 21]), ([19], [19]), ([19], [19]), ([23, 24, 22, 19], [19, 23, 24]), ([22, 25, 19], [19, 22, 25]), ([19, 26], [19, 26]), ([27, 25], [27]), ([28], [28]), ([28], [28]), ([29, 30, 28, 28], [28, 29, 30]), ([28], [28]), ([28], [28]), ([32, 33, 31, 28], [28, 32, 33]), ([31, 34, 28], [28, 31, 34]), ([28, 35], [28, 35]), ([36, 34], [36]), ([37], [37]), ([37], [37]), ([38, 39, 37, 37], [37, 38, 39]), ([37], [37]), ([37], [37]), ([41, 42, 40, 37], [37, 41, 42]), ([40, 43, 37], [37, 40, 43]), ([37, 44], [37, 44]), ([45, 43], [45]), ([46], [46]), ([47, 46, 46], [46, 47]), ([46], [46]), ([49, 48, 46], [46, 49]), ([48, 50, 46], [46, 48, 50]), ([46, 51], [46, 51]), ([52, 50, 0, 1, 2, 3, 4, 5, 6, 7, 8, 9, 10, 11, 12, 13, 14, 15, 16, 17, 18, 19, 20, 21, 22, 23, 24, 25, 26, 27, 28, 29, 30, 31, 32, 33, 34, 35, 36, 37, 38, 39, 40, 41, 42, 43, 44, 45, 46, 47, 48, 49, 50, 51, 52], [52])])
def selkielaw10_WordsValues.B5 : List Nat := [0, 1, 0, 7, 15, 31, 63, 127, 63, 511, 1023, 2047, 4095, 8191, 16383, 8191, 65535, 131071, 262143, 524287, 1048575, 1048575, 4194303, 1048575, 1048575, 33554431, 67108863, 134217727, 268435455, 536870911, 536870911, 2147483647, 536870911, 536870911, 17179869183, 34359738367, 68719476735, 137438953471, 274877906943, 274877906943, 1099511627775, 274877906943, 274877906943, 8796093022207, 17592186044415, 35184372088831, 70368744177663, 140737488355327, 281474976710655, 140737488355327, 1125899906842623, 2251799813685247, 4503599627370495, 9007199254740991]
theorem selkielaw10_WordsValues.tab5 : rtab .any (opsOf Tryd.f5 5) = selkielaw10_WordsValues.T5 := by kernel_rfl
theorem selkielaw10_WordsValues.bits5 : waitsOk selkielaw10_WordsValues.T5.2 selkielaw10_WordsValues.B5 = true := by kernel_rfl
set_option maxHeartbeats 8000000 in
set_option maxRecDepth 100000 in
theorem selkielaw10_WordsValues.calls (k : Nat) (a0_0 : Int) (a0_1 : Int) (a0_2 : ByteArray) (a1_0 : Int) (a1_1 : Int) (a1_2 : ByteArray) (r : Bool) (w : World) (hT : Go.Proofs.YtpgpmldaggpciaaDoor.TabW.Tab w) (hr : r = true) (h : selkielaw10_WordsValues.f k a0_0 a0_1 a0_2 a1_0 a1_1 a1_2 = some r) :
    Calls Tryd.prog 5 #[.agg #[.int .i64 a0_0, .int .i64 a0_1, .string a0_2], .agg #[.int .i64 a1_0, .int .i64 a1_1, .string a1_2]] w fun e w' => e = .returned (.bool r) ∧ Below w.heap.size w w' := by
  have hu32 := Tryd.underlying32
  have HB := Aside0.mk (Below.refl w.heap.size w)
  have HR := Aside0.mk hr
  clear hr
  have HTT := Aside0.mk hT
  clear hT
  have H : ((selkielaw10_alive.f).bind fun t164 => (if t164 = true then (if (a0_2.size : Int) > 10000 then (selkielaw10_WordsValues.j0 k true a0_0 a0_1 a0_2 a1_0 a1_1 a1_2) else (selkielaw10_WordsValues.j0 k (decide ((a1_2.size : Int) > 10000)) a0_0 a0_1 a0_2 a1_0 a1_1 a1_2)) else (some false))) = some r := h
  clear h
  replace H := Option.bind_eq_some_iff.mp H
  obtain ⟨t164, A30, H⟩ := H
  replace H : (if t164 = true then (if (a0_2.size : Int) > 10000 then (selkielaw10_WordsValues.j0 k true a0_0 a0_1 a0_2 a1_0 a1_1 a1_2) else (selkielaw10_WordsValues.j0 k (decide ((a1_2.size : Int) > 10000)) a0_0 a0_1 a0_2 a1_0 a1_1 a1_2)) else (some false)) = some r := H
  have A3 := Aside0.mk A30
  clear A30
  by_cases c4 : t164 = true
  · subst c4
    have H1 : (if (a0_2.size : Int) > 10000 then (selkielaw10_WordsValues.j0 k true a0_0 a0_1 a0_2 a1_0 a1_1 a1_2) else (selkielaw10_WordsValues.j0 k (decide ((a1_2.size : Int) > 10000)) a0_0 a0_1 a0_2 a1_0 a1_1 a1_2)) = some r := by rw [if_pos rfl] at H; exact H
    clear H
    have H := H1
    clear H1
    have HC5 := Aside0.mk H
    clear H
    go_enter Tryd.func5, Tryd.ntmps5
    go_upto_region 3 with (first | ((with_reducible refine gate_dst (N := 2) rfl ?_); (try (refine gate_guard (by rfl) ?_; dsimp only)); refine box_event ?hg (N := 2) ?hd (cs := #[.int .i64 a0_0, .int .i64 a0_1, .string a0_2]) (t := 32) ?hr ?_; (case hd => rfl); (case hg => rfl); (case hr => first | (go_simp; done) | (go_simp; rfl)); intro gb162 hg w6 hbox hb; have n0_ := Aside0.mk (below_step (by repeat (first | (with_reducible first | exact HB.out | apply below_alloc | apply pw_below_drewN | apply below_drew1) | exact HB.out)) hb); have n1_ := Aside0.mk (hbox); have n2_ := Aside0.mk ((by rw [hg]; exact (below_size (by repeat (first | (with_reducible first | exact HB.out | apply below_alloc | apply pw_below_drewN | apply below_drew1) | exact HB.out))) : w.heap.size ≤ gb162)); have n3_ := Aside0.mk ((by rw [hg]; exact (below_size (by repeat (first | (with_reducible first | exact HB.out | apply below_alloc | apply pw_below_drewN | apply below_drew1) | exact HB.out))) : w.heap.size ≤ gb162)); clear HB; have HB := n0_; have BK162 := n1_; have GW162 := n2_; have GE162 := n3_; clear n0_ n1_ n2_ n3_; clear hb hbox hg) | ((with_reducible refine gate_dst (N := 3) rfl ?_); (try (refine gate_guard (by rfl) ?_; dsimp only)); refine box_event ?hg (N := 3) ?hd (cs := #[.int .i64 a1_0, .int .i64 a1_1, .string a1_2]) (t := 32) ?hr ?_; (case hd => rfl); (case hg => rfl); (case hr => first | (go_simp; done) | (go_simp; rfl)); intro gb163 hg w7 hbox hb; have n0_ := Aside0.mk (blk_below (g := gb162) (o := .cells #[.int .i64 a0_0, .int .i64 a0_1, .string a0_2] 32 (0, 0)) (by (with_reducible repeat (first | refine blk_drewN ?_ _ | refine blk_drew ?_ | refine blk_alloc ?_ _)); exact BK162.out) hb); have n1_ := Aside0.mk (below_step (by repeat (first | (with_reducible first | exact HB.out | apply below_alloc | apply pw_below_drewN | apply below_drew1 | refine below_set ?_ GE162.out) | exact HB.out)) hb); have n2_ := Aside0.mk (hbox); have n3_ := Aside0.mk ((by rw [hg]; exact (below_size (by repeat (first | (with_reducible first | exact HB.out | apply below_alloc | apply pw_below_drewN | apply below_drew1 | refine below_set ?_ GE162.out) | exact HB.out))) : w.heap.size ≤ gb163)); have n4_ := Aside0.mk ((by rw [hg]; exact (below_size (by repeat (first | (with_reducible first | exact HB.out | apply below_alloc | apply pw_below_drewN | apply below_drew1 | refine below_set ?_ GE162.out) | exact HB.out))) : w.heap.size ≤ gb163)); have n5_ := Aside0.mk ((by rw [hg]; exact Nat.ne_of_lt (blk_lt (g := gb162) (o := .cells #[.int .i64 a0_0, .int .i64 a0_1, .string a0_2] 32 (0, 0)) (by (with_reducible repeat (first | refine blk_drewN ?_ _ | refine blk_drew ?_ | refine blk_alloc ?_ _)); exact BK162.out)) : gb162 ≠ gb163)); have n6_ := Aside0.mk ((by rw [hg]; exact Nat.ne_of_gt (blk_lt (g := gb162) (o := .cells #[.int .i64 a0_0, .int .i64 a0_1, .string a0_2] 32 (0, 0)) (by (with_reducible repeat (first | refine blk_drewN ?_ _ | refine blk_drew ?_ | refine blk_alloc ?_ _)); exact BK162.out)) : gb163 ≠ gb162)); clear BK162; clear HB; have BK162 := n0_; have HB := n1_; have BK163 := n2_; have GW163 := n3_; have GE163 := n4_; have NB162_163 := n5_; have NB163_162 := n6_; clear n0_ n1_ n2_ n3_ n4_ n5_ n6_; clear hb hbox hg) | ((with_reducible refine gate_callee (f := 17) rfl ?_); refine goesL_ (some 5) rfl rfl Tryd.func17 (by kernel_rfl) rfl #[] rfl (by (try simp only [List.map_toArray, List.map_cons, List.map_nil]); first | done | rfl | (simp only [List.length_drop, List.length_take]; rfl)) ?_; (with_reducible refine (selkielaw10_alive.calls  true _ (HTT.out.on (by repeat (first | (with_reducible first | exact HB.out | apply below_alloc | apply pw_below_drewN | apply below_drew1 | refine below_set ?_ GE162.out | refine below_set ?_ GE163.out) | exact HB.out))) A3.out).mono ?_); rintro e w8 ⟨rfl, hb⟩; refine ⟨_, rfl, ?_⟩; have n0_ := Aside0.mk (blk_below (g := gb162) (o := .cells #[.int .i64 a0_0, .int .i64 a0_1, .string a0_2] 32 (0, 0)) (by (with_reducible repeat (first | refine blk_drewN ?_ _ | refine blk_drew ?_ | refine blk_alloc ?_ _)); exact BK162.out) hb); have n1_ := Aside0.mk (blk_below (g := gb163) (o := .cells #[.int .i64 a1_0, .int .i64 a1_1, .string a1_2] 32 (0, 0)) (by (with_reducible repeat (first | refine blk_drewN ?_ _ | refine blk_drew ?_ | refine blk_alloc ?_ _)); exact BK163.out) hb); have n2_ := Aside0.mk (below_step (by repeat (first | (with_reducible first | exact HB.out | apply below_alloc | apply pw_below_drewN | apply below_drew1 | refine below_set ?_ GE162.out | refine below_set ?_ GE163.out) | exact HB.out)) hb); clear BK162; clear BK163; clear HB; have BK162 := n0_; have BK163 := n1_; have HB := n2_; clear n0_ n1_ n2_; (try clear hb); (try clear hb2); (try clear hk); (try clear hi)))
    (try simp only [Act.put, List.setIfInBounds_toArray, List.set_cons_zero, List.set_cons_succ])
    go_cut [16] (fun v16 wc => ∃ (kq : Nat) (x16_4 : Bool), v16 = .bool x16_4 ∧ Aside0 (selkielaw10_WordsValues.j0 kq x16_4 a0_0 a0_1 a0_2 a1_0 a1_1 a1_2 = some r) ∧ Aside0 (kq ≤ k) ∧ Aside0 (wc.heap[gb162]? = some (.cells #[.int .i64 a0_0, .int .i64 a0_1, .string a0_2] 32 (0, 0))) ∧ Aside0 (wc.heap[gb163]? = some (.cells #[.int .i64 a1_0, .int .i64 a1_1, .string a1_2] 32 (0, 0))) ∧ Aside0 (Below w.heap.size w wc))
    case first =>
      have H := HC5.out
      clear HC5
      by_cases c9 : (a0_2.size : Int) > 10000
      · rw [if_pos c9] at H
        have c9b0 : decide (10000 < (a0_2.size : Int)) = true := decide_eq_true c9
        have c9b1 : decide (10000 < a0_2.size) = true := decide_eq_true (by omega)
        clear c9
        (first | rw [c9b0] | (simp only [i64_w, i32_w]; rw [c9b0]) | skip)
        have H' := Aside0.mk H
        clear H
        have hnb10 := NB162_163.out
        have hnc10 := NB163_162.out
        have hcz11_0 : w8.cell? ⟨gb162, 0, none⟩ = some (.int .i64 a0_0) := (blk_cell BK162.out 0).trans rfl
        have hcz11_1 : w8.cell? ⟨gb162, 1, none⟩ = some (.int .i64 a0_1) := (blk_cell BK162.out 1).trans rfl
        have hcz11_2 : w8.cell? ⟨gb162, 2, none⟩ = some (.string a0_2) := (blk_cell BK162.out 2).trans rfl
        have hfz11_0 := blk_frozen BK162.out 0
        have hfz11_1 := blk_frozen BK162.out 1
        have hfz11_2 := blk_frozen BK162.out 2
        go_wp2
        go_meet
        case rel => exact ⟨_, (true), (by first | rfl | (simp; done) | (simp [*]; done) | (simp; exact TabW.bclose _ _) | (simp; exact TabW.bclose2 _)), H', ⟨by first | omega | exact Nat.le_refl _⟩, ⟨by (with_reducible repeat (first | refine blk_drewN ?_ _ | refine blk_drew ?_ | refine blk_alloc ?_ _)); exact BK162.out⟩, ⟨by (with_reducible repeat (first | refine blk_drewN ?_ _ | refine blk_drew ?_ | refine blk_alloc ?_ _)); exact BK163.out⟩, ⟨by repeat (first | (with_reducible first | exact HB.out | apply below_alloc | apply pw_below_drewN | apply below_drew1 | refine below_set ?_ GE162.out | refine below_set ?_ GE163.out) | exact HB.out)⟩⟩
      · rw [if_neg c9] at H
        have c9b0 : decide (10000 < (a0_2.size : Int)) = false := decide_eq_false c9
        have c9b1 : decide (10000 < a0_2.size) = false := decide_eq_false (by omega)
        clear c9
        (first | rw [c9b0] | (simp only [i64_w, i32_w]; rw [c9b0]) | skip)
        have H' := Aside0.mk H
        clear H
        have hnb12 := NB162_163.out
        have hnc12 := NB163_162.out
        have hcz13_0 : w8.cell? ⟨gb162, 0, none⟩ = some (.int .i64 a0_0) := (blk_cell BK162.out 0).trans rfl
        have hcz13_1 : w8.cell? ⟨gb162, 1, none⟩ = some (.int .i64 a0_1) := (blk_cell BK162.out 1).trans rfl
        have hcz13_2 : w8.cell? ⟨gb162, 2, none⟩ = some (.string a0_2) := (blk_cell BK162.out 2).trans rfl
        have hfz13_0 := blk_frozen BK162.out 0
        have hfz13_1 := blk_frozen BK162.out 1
        have hfz13_2 := blk_frozen BK162.out 2
        have hcz14_0 : w8.cell? ⟨gb163, 0, none⟩ = some (.int .i64 a1_0) := (blk_cell BK163.out 0).trans rfl
        have hcz14_1 : w8.cell? ⟨gb163, 1, none⟩ = some (.int .i64 a1_1) := (blk_cell BK163.out 1).trans rfl
        have hcz14_2 : w8.cell? ⟨gb163, 2, none⟩ = some (.string a1_2) := (blk_cell BK163.out 2).trans rfl
        have hfz14_0 := blk_frozen BK163.out 0
        have hfz14_1 := blk_frozen BK163.out 1
        have hfz14_2 := blk_frozen BK163.out 2
        go_wp2
        go_meet
        case rel => exact ⟨_, (decide ((a1_2.size : Int) > 10000)), (by first | rfl | (simp; done) | (simp [*]; done) | (simp; exact TabW.bclose _ _) | (simp; exact TabW.bclose2 _)), H', ⟨by first | omega | exact Nat.le_refl _⟩, ⟨by (with_reducible repeat (first | refine blk_drewN ?_ _ | refine blk_drew ?_ | refine blk_alloc ?_ _)); exact BK162.out⟩, ⟨by (with_reducible repeat (first | refine blk_drewN ?_ _ | refine blk_drew ?_ | refine blk_alloc ?_ _)); exact BK163.out⟩, ⟨by repeat (first | (with_reducible first | exact HB.out | apply below_alloc | apply pw_below_drewN | apply below_drew1 | refine below_set ?_ GE162.out | refine below_set ?_ GE163.out) | exact HB.out)⟩⟩
    case rest =>
      clear HC5
      try clear c1
      try clear p2
      try clear c4
      try clear c5
      try clear c9
      try clear c9b0
      try clear c9b1
      try clear c10
      try clear c12
      try clear hcz11_0
      try clear hcz11_1
      try clear hcz11_2
      try clear hcz13_0
      try clear hcz13_1
      try clear hcz13_2
      try clear hcz14_0
      try clear hcz14_1
      try clear hcz14_2
      try clear hfz11_0
      try clear hfz11_1
      try clear hfz11_2
      try clear hfz13_0
      try clear hfz13_1
      try clear hfz13_2
      try clear hfz14_0
      try clear hfz14_1
      try clear hfz14_2
      obtain ⟨kq, x16_4, rfl, HA, HJ4, BK162, BK163, HB⟩ := hcut
      cases kq with
      | zero => exact absurd HA.out (by simp [selkielaw10_WordsValues.j0])
      | succ kj4 =>
        have H := HA.out
        clear HA
        simp only [selkielaw10_WordsValues.j0] at H
        by_cases c15 : x16_4 = true
        · subst c15
          have H1 : (some true) = some r := by rw [if_pos rfl] at H; exact H
          clear H
          have H := H1
          clear H1
          obtain rfl := Option.some.inj H
          go_wp2
          go_ret
          exact ⟨by first | rfl | (simp [errW_none, errW_some] <;> rfl) | (simp [*, errW_none, errW_some] <;> rfl), by repeat (first | (with_reducible first | exact HB.out | apply below_alloc | apply pw_below_drewN | apply below_drew1 | refine below_set ?_ GE162.out | refine below_set ?_ GE163.out) | exact HB.out)⟩
        · replace c15 := Bool.eq_false_iff.mpr c15
          subst c15
          have H1 : ((words_Index.f a0_0 a0_1 a0_2).bind fun t165 => ((selkieref10_Index.f a0_0 a0_1 a0_2).bind fun t166 => (if t165.toList = t166.toList then ((words_Call.f a0_0 a0_1 a0_2).bind fun t167 => ((selkieref10_Call.f a0_0 a0_1 a0_2).bind fun t168 => (if t167.toList = t168.toList then ((words_Len.f a0_0 a0_1 a0_2).bind fun t169 => ((selkieref10_Len.f a0_0 a0_1 a0_2).bind fun t170 => (if t169.toList = t170.toList then ((words_Arith.f a0_0 a0_1 a0_2 a1_0 a1_1 a1_2).bind fun t171 => ((selkieref10_Arith.f a0_0 a0_1 a0_2 a1_0 a1_1 a1_2).bind fun t172 => (if t171.toList = t172.toList then ((words_Concat.f a0_0 a0_1 a0_2 a1_0 a1_1 a1_2).bind fun t173 => ((selkieref10_Concat.f a0_0 a0_1 a0_2 a1_0 a1_1 a1_2).bind fun t174 => (if t173.toList = t174.toList then ((words_Compare.f a0_0 a0_1 a0_2 a1_0 a1_1 a1_2).bind fun t175 => ((selkieref10_Compare.f a0_0 a0_1 a0_2 a1_0 a1_1 a1_2).bind fun t176 => (if t175.toList = t176.toList then ((words_Error.f a0_0 a0_1 a0_2).bind fun t177 => ((selkieref10_Error.f a0_0 a0_1 a0_2).bind fun t178 => (some (t177.toList == t178.toList)))) else (some false)))) else (some false)))) else (some false)))) else (some false)))) else (some false)))) else (some false)))) = some r := by rw [if_neg (show ¬ (false = true) by decide)] at H; exact H
          clear H
          have H := H1
          clear H1
          replace H := Option.bind_eq_some_iff.mp H
          obtain ⟨t165, A160, H⟩ := H
          replace H : ((selkieref10_Index.f a0_0 a0_1 a0_2).bind fun t166 => (if t165.toList = t166.toList then ((words_Call.f a0_0 a0_1 a0_2).bind fun t167 => ((selkieref10_Call.f a0_0 a0_1 a0_2).bind fun t168 => (if t167.toList = t168.toList then ((words_Len.f a0_0 a0_1 a0_2).bind fun t169 => ((selkieref10_Len.f a0_0 a0_1 a0_2).bind fun t170 => (if t169.toList = t170.toList then ((words_Arith.f a0_0 a0_1 a0_2 a1_0 a1_1 a1_2).bind fun t171 => ((selkieref10_Arith.f a0_0 a0_1 a0_2 a1_0 a1_1 a1_2).bind fun t172 => (if t171.toList = t172.toList then ((words_Concat.f a0_0 a0_1 a0_2 a1_0 a1_1 a1_2).bind fun t173 => ((selkieref10_Concat.f a0_0 a0_1 a0_2 a1_0 a1_1 a1_2).bind fun t174 => (if t173.toList = t174.toList then ((words_Compare.f a0_0 a0_1 a0_2 a1_0 a1_1 a1_2).bind fun t175 => ((selkieref10_Compare.f a0_0 a0_1 a0_2 a1_0 a1_1 a1_2).bind fun t176 => (if t175.toList = t176.toList then ((words_Error.f a0_0 a0_1 a0_2).bind fun t177 => ((selkieref10_Error.f a0_0 a0_1 a0_2).bind fun t178 => (some (t177.toList == t178.toList)))) else (some false)))) else (some false)))) else (some false)))) else (some false)))) else (some false)))) else (some false))) = some r := H
          have A16 := Aside0.mk A160
          clear A160
          replace H := Option.bind_eq_some_iff.mp H
          obtain ⟨t166, A170, H⟩ := H
          replace H : (if t165.toList = t166.toList then ((words_Call.f a0_0 a0_1 a0_2).bind fun t167 => ((selkieref10_Call.f a0_0 a0_1 a0_2).bind fun t168 => (if t167.toList = t168.toList then ((words_Len.f a0_0 a0_1 a0_2).bind fun t169 => ((selkieref10_Len.f a0_0 a0_1 a0_2).bind fun t170 => (if t169.toList = t170.toList then ((words_Arith.f a0_0 a0_1 a0_2 a1_0 a1_1 a1_2).bind fun t171 => ((selkieref10_Arith.f a0_0 a0_1 a0_2 a1_0 a1_1 a1_2).bind fun t172 => (if t171.toList = t172.toList then ((words_Concat.f a0_0 a0_1 a0_2 a1_0 a1_1 a1_2).bind fun t173 => ((selkieref10_Concat.f a0_0 a0_1 a0_2 a1_0 a1_1 a1_2).bind fun t174 => (if t173.toList = t174.toList then ((words_Compare.f a0_0 a0_1 a0_2 a1_0 a1_1 a1_2).bind fun t175 => ((selkieref10_Compare.f a0_0 a0_1 a0_2 a1_0 a1_1 a1_2).bind fun t176 => (if t175.toList = t176.toList then ((words_Error.f a0_0 a0_1 a0_2).bind fun t177 => ((selkieref10_Error.f a0_0 a0_1 a0_2).bind fun t178 => (some (t177.toList == t178.toList)))) else (some false)))) else (some false)))) else (some false)))) else (some false)))) else (some false)))) else (some false)) = some r := H
          have A17 := Aside0.mk A170
          clear A170
          by_cases c18 : t165.toList = t166.toList
          · rw [if_pos c18] at H
            have c18b0 : (t165.toList == t166.toList) = true := beq_iff_eq.mpr c18
            have c18b1 : (t165.toList != t166.toList) = false := bne_eq_false_iff_eq.mpr c18
            clear c18
            replace H := Option.bind_eq_some_iff.mp H
            obtain ⟨t167, A190, H⟩ := H
            replace H : ((selkieref10_Call.f a0_0 a0_1 a0_2).bind fun t168 => (if t167.toList = t168.toList then ((words_Len.f a0_0 a0_1 a0_2).bind fun t169 => ((selkieref10_Len.f a0_0 a0_1 a0_2).bind fun t170 => (if t169.toList = t170.toList then ((words_Arith.f a0_0 a0_1 a0_2 a1_0 a1_1 a1_2).bind fun t171 => ((selkieref10_Arith.f a0_0 a0_1 a0_2 a1_0 a1_1 a1_2).bind fun t172 => (if t171.toList = t172.toList then ((words_Concat.f a0_0 a0_1 a0_2 a1_0 a1_1 a1_2).bind fun t173 => ((selkieref10_Concat.f a0_0 a0_1 a0_2 a1_0 a1_1 a1_2).bind fun t174 => (if t173.toList = t174.toList then ((words_Compare.f a0_0 a0_1 a0_2 a1_0 a1_1 a1_2).bind fun t175 => ((selkieref10_Compare.f a0_0 a0_1 a0_2 a1_0 a1_1 a1_2).bind fun t176 => (if t175.toList = t176.toList then ((words_Error.f a0_0 a0_1 a0_2).bind fun t177 => ((selkieref10_Error.f a0_0 a0_1 a0_2).bind fun t178 => (some (t177.toList == t178.toList)))) else (some false)))) else (some false)))) else (some false)))) else (some false)))) else (some false))) = some r := H
            have A19 := Aside0.mk A190
            clear A190
            replace H := Option.bind_eq_some_iff.mp H
            obtain ⟨t168, A200, H⟩ := H
            replace H : (if t167.toList = t168.toList then ((words_Len.f a0_0 a0_1 a0_2).bind fun t169 => ((selkieref10_Len.f a0_0 a0_1 a0_2).bind fun t170 => (if t169.toList = t170.toList then ((words_Arith.f a0_0 a0_1 a0_2 a1_0 a1_1 a1_2).bind fun t171 => ((selkieref10_Arith.f a0_0 a0_1 a0_2 a1_0 a1_1 a1_2).bind fun t172 => (if t171.toList = t172.toList then ((words_Concat.f a0_0 a0_1 a0_2 a1_0 a1_1 a1_2).bind fun t173 => ((selkieref10_Concat.f a0_0 a0_1 a0_2 a1_0 a1_1 a1_2).bind fun t174 => (if t173.toList = t174.toList then ((words_Compare.f a0_0 a0_1 a0_2 a1_0 a1_1 a1_2).bind fun t175 => ((selkieref10_Compare.f a0_0 a0_1 a0_2 a1_0 a1_1 a1_2).bind fun t176 => (if t175.toList = t176.toList then ((words_Error.f a0_0 a0_1 a0_2).bind fun t177 => ((selkieref10_Error.f a0_0 a0_1 a0_2).bind fun t178 => (some (t177.toList == t178.toList)))) else (some false)))) else (some false)))) else (some false)))) else (some false)))) else (some false)) = some r := H
            have A20 := Aside0.mk A200
            clear A200
            by_cases c21 : t167.toList = t168.toList
            · rw [if_pos c21] at H
              have c21b0 : (t167.toList == t168.toList) = true := beq_iff_eq.mpr c21
              have c21b1 : (t167.toList != t168.toList) = false := bne_eq_false_iff_eq.mpr c21
              clear c21
              replace H := Option.bind_eq_some_iff.mp H
              obtain ⟨t169, A220, H⟩ := H
              replace H : ((selkieref10_Len.f a0_0 a0_1 a0_2).bind fun t170 => (if t169.toList = t170.toList then ((words_Arith.f a0_0 a0_1 a0_2 a1_0 a1_1 a1_2).bind fun t171 => ((selkieref10_Arith.f a0_0 a0_1 a0_2 a1_0 a1_1 a1_2).bind fun t172 => (if t171.toList = t172.toList then ((words_Concat.f a0_0 a0_1 a0_2 a1_0 a1_1 a1_2).bind fun t173 => ((selkieref10_Concat.f a0_0 a0_1 a0_2 a1_0 a1_1 a1_2).bind fun t174 => (if t173.toList = t174.toList then ((words_Compare.f a0_0 a0_1 a0_2 a1_0 a1_1 a1_2).bind fun t175 => ((selkieref10_Compare.f a0_0 a0_1 a0_2 a1_0 a1_1 a1_2).bind fun t176 => (if t175.toList = t176.toList then ((words_Error.f a0_0 a0_1 a0_2).bind fun t177 => ((selkieref10_Error.f a0_0 a0_1 a0_2).bind fun t178 => (some (t177.toList == t178.toList)))) else (some false)))) else (some false)))) else (some false)))) else (some false))) = some r := H
              have A22 := Aside0.mk A220
              clear A220
              replace H := Option.bind_eq_some_iff.mp H
              obtain ⟨t170, A230, H⟩ := H
              replace H : (if t169.toList = t170.toList then ((words_Arith.f a0_0 a0_1 a0_2 a1_0 a1_1 a1_2).bind fun t171 => ((selkieref10_Arith.f a0_0 a0_1 a0_2 a1_0 a1_1 a1_2).bind fun t172 => (if t171.toList = t172.toList then ((words_Concat.f a0_0 a0_1 a0_2 a1_0 a1_1 a1_2).bind fun t173 => ((selkieref10_Concat.f a0_0 a0_1 a0_2 a1_0 a1_1 a1_2).bind fun t174 => (if t173.toList = t174.toList then ((words_Compare.f a0_0 a0_1 a0_2 a1_0 a1_1 a1_2).bind fun t175 => ((selkieref10_Compare.f a0_0 a0_1 a0_2 a1_0 a1_1 a1_2).bind fun t176 => (if t175.toList = t176.toList then ((words_Error.f a0_0 a0_1 a0_2).bind fun t177 => ((selkieref10_Error.f a0_0 a0_1 a0_2).bind fun t178 => (some (t177.toList == t178.toList)))) else (some false)))) else (some false)))) else (some false)))) else (some false)) = some r := H
              have A23 := Aside0.mk A230
              clear A230
              by_cases c24 : t169.toList = t170.toList
              · rw [if_pos c24] at H
                have c24b0 : (t169.toList == t170.toList) = true := beq_iff_eq.mpr c24
                have c24b1 : (t169.toList != t170.toList) = false := bne_eq_false_iff_eq.mpr c24
                clear c24
                replace H := Option.bind_eq_some_iff.mp H
                obtain ⟨t171, A250, H⟩ := H
                replace H : ((selkieref10_Arith.f a0_0 a0_1 a0_2 a1_0 a1_1 a1_2).bind fun t172 => (if t171.toList = t172.toList then ((words_Concat.f a0_0 a0_1 a0_2 a1_0 a1_1 a1_2).bind fun t173 => ((selkieref10_Concat.f a0_0 a0_1 a0_2 a1_0 a1_1 a1_2).bind fun t174 => (if t173.toList = t174.toList then ((words_Compare.f a0_0 a0_1 a0_2 a1_0 a1_1 a1_2).bind fun t175 => ((selkieref10_Compare.f a0_0 a0_1 a0_2 a1_0 a1_1 a1_2).bind fun t176 => (if t175.toList = t176.toList then ((words_Error.f a0_0 a0_1 a0_2).bind fun t177 => ((selkieref10_Error.f a0_0 a0_1 a0_2).bind fun t178 => (some (t177.toList == t178.toList)))) else (some false)))) else (some false)))) else (some false))) = some r := H
                have A25 := Aside0.mk A250
                clear A250
                replace H := Option.bind_eq_some_iff.mp H
                obtain ⟨t172, A260, H⟩ := H
                replace H : (if t171.toList = t172.toList then ((words_Concat.f a0_0 a0_1 a0_2 a1_0 a1_1 a1_2).bind fun t173 => ((selkieref10_Concat.f a0_0 a0_1 a0_2 a1_0 a1_1 a1_2).bind fun t174 => (if t173.toList = t174.toList then ((words_Compare.f a0_0 a0_1 a0_2 a1_0 a1_1 a1_2).bind fun t175 => ((selkieref10_Compare.f a0_0 a0_1 a0_2 a1_0 a1_1 a1_2).bind fun t176 => (if t175.toList = t176.toList then ((words_Error.f a0_0 a0_1 a0_2).bind fun t177 => ((selkieref10_Error.f a0_0 a0_1 a0_2).bind fun t178 => (some (t177.toList == t178.toList)))) else (some false)))) else (some false)))) else (some false)) = some r := H
                have A26 := Aside0.mk A260
                clear A260
                by_cases c27 : t171.toList = t172.toList
                · rw [if_pos c27] at H
                  have c27b0 : (t171.toList == t172.toList) = true := beq_iff_eq.mpr c27
                  have c27b1 : (t171.toList != t172.toList) = false := bne_eq_false_iff_eq.mpr c27
                  clear c27
                  replace H := Option.bind_eq_some_iff.mp H
                  obtain ⟨t173, A280, H⟩ := H
                  replace H : ((selkieref10_Concat.f a0_0 a0_1 a0_2 a1_0 a1_1 a1_2).bind fun t174 => (if t173.toList = t174.toList then ((words_Compare.f a0_0 a0_1 a0_2 a1_0 a1_1 a1_2).bind fun t175 => ((selkieref10_Compare.f a0_0 a0_1 a0_2 a1_0 a1_1 a1_2).bind fun t176 => (if t175.toList = t176.toList then ((words_Error.f a0_0 a0_1 a0_2).bind fun t177 => ((selkieref10_Error.f a0_0 a0_1 a0_2).bind fun t178 => (some (t177.toList == t178.toList)))) else (some false)))) else (some false))) = some r := H
                  have A28 := Aside0.mk A280
                  clear A280
                  replace H := Option.bind_eq_some_iff.mp H
                  obtain ⟨t174, A290, H⟩ := H
                  replace H : (if t173.toList = t174.toList then ((words_Compare.f a0_0 a0_1 a0_2 a1_0 a1_1 a1_2).bind fun t175 => ((selkieref10_Compare.f a0_0 a0_1 a0_2 a1_0 a1_1 a1_2).bind fun t176 => (if t175.toList = t176.toList then ((words_Error.f a0_0 a0_1 a0_2).bind fun t177 => ((selkieref10_Error.f a0_0 a0_1 a0_2).bind fun t178 => (some (t177.toList == t178.toList)))) else (some false)))) else (some false)) = some r := H
                  have A29 := Aside0.mk A290
                  clear A290
                  by_cases c30 : t173.toList = t174.toList
                  · rw [if_pos c30] at H
                    have c30b0 : (t173.toList == t174.toList) = true := beq_iff_eq.mpr c30
                    have c30b1 : (t173.toList != t174.toList) = false := bne_eq_false_iff_eq.mpr c30
                    clear c30
                    replace H := Option.bind_eq_some_iff.mp H
                    obtain ⟨t175, A310, H⟩ := H
                    replace H : ((selkieref10_Compare.f a0_0 a0_1 a0_2 a1_0 a1_1 a1_2).bind fun t176 => (if t175.toList = t176.toList then ((words_Error.f a0_0 a0_1 a0_2).bind fun t177 => ((selkieref10_Error.f a0_0 a0_1 a0_2).bind fun t178 => (some (t177.toList == t178.toList)))) else (some false))) = some r := H
                    have A31 := Aside0.mk A310
                    clear A310
                    replace H := Option.bind_eq_some_iff.mp H
                    obtain ⟨t176, A320, H⟩ := H
                    replace H : (if t175.toList = t176.toList then ((words_Error.f a0_0 a0_1 a0_2).bind fun t177 => ((selkieref10_Error.f a0_0 a0_1 a0_2).bind fun t178 => (some (t177.toList == t178.toList)))) else (some false)) = some r := H
                    have A32 := Aside0.mk A320
                    clear A320
                    by_cases c33 : t175.toList = t176.toList
                    · rw [if_pos c33] at H
                      have c33b0 : (t175.toList == t176.toList) = true := beq_iff_eq.mpr c33
                      have c33b1 : (t175.toList != t176.toList) = false := bne_eq_false_iff_eq.mpr c33
                      clear c33
                      replace H := Option.bind_eq_some_iff.mp H
                      obtain ⟨t177, A340, H⟩ := H
                      replace H : ((selkieref10_Error.f a0_0 a0_1 a0_2).bind fun t178 => (some (t177.toList == t178.toList))) = some r := H
                      have A34 := Aside0.mk A340
                      clear A340
                      replace H := Option.bind_eq_some_iff.mp H
                      obtain ⟨t178, A350, H⟩ := H
                      replace H : (some (t177.toList == t178.toList)) = some r := H
                      have A35 := Aside0.mk A350
                      clear A350
                      obtain rfl := Option.some.inj H
                      try go_wp2
                      have n0_ := Aside0.mk (blk_drew BK162.out)
                      have n1_ := Aside0.mk (blk_drew BK163.out)
                      have n2_ := Aside0.mk (below_drew1 HB.out)
                      clear BK162
                      clear BK163
                      clear HB
                      have BK162 := n0_
                      have BK163 := n1_
                      have HB := n2_
                      clear n0_ n1_ n2_
                      refine start_ (n := 54) (S := fun w' => w'.cell? ⟨gb162, 0, none⟩ = some (.int .i64 a0_0) ∧ w'.cell? ⟨gb162, 1, none⟩ = some (.int .i64 a0_1) ∧ w'.cell? ⟨gb162, 2, none⟩ = some (.string a0_2) ∧ w'.cell? ⟨gb163, 0, none⟩ = some (.int .i64 a1_0) ∧ w'.cell? ⟨gb163, 1, none⟩ = some (.int .i64 a1_1) ∧ w'.cell? ⟨gb163, 2, none⟩ = some (.string a1_2)) (ds := []) #[false, false, false, false, false, false, false, false, false, false, false, false, false, false, false, false, false, false, false, false, false, false, false, false, false, false, false, false, false, false, false, false, false, false, false, false, false, false, false, false, false, false, false, false, false, false, false, false, false, false, false, false, false, false] (by kernel_rfl) rfl rfl ⟨(blk_cell BK162.out 0).trans rfl, (blk_cell BK162.out 1).trans rfl, (blk_cell BK162.out 2).trans rfl, (blk_cell BK163.out 0).trans rfl, (blk_cell BK163.out 1).trans rfl, (blk_cell BK163.out 2).trans rfl⟩ (fun hHeld => ?_); refine with_tabW selkielaw10_WordsValues.tab5 selkielaw10_WordsValues.bits5 (fun HT_ HW_ => ?_)
                      generalize wc.drew = w36 at BK162 BK163 HB hHeld ⊢
                      refine take_ (i := 0) (N := some 17) (v := ?_) (a' := ?_) #[true, false, false, false, false, false, false, false, false, false, false, false, false, false, false, false, false, false, false, false, false, false, false, false, false, false, false, false, false, false, false, false, false, false, false, false, false, false, false, false, false, false, false, false, false, false, false, false, false, false, false, false, false, false] rfl rfl (take_ofW HT_.out HW_.out (by kernel_rfl)) (fun _ _ _ h => h) (Or.inl ⟨by rfl, ?_⟩) hHeld ?_ ?_
                      rotate_left
                      · rintro w' ⟨s0, s1, s2, s3, s4, s5⟩
                        go_simp
                        with_reducible rfl
                      rotate_left
                      · simp only [Act.put, List.setIfInBounds_toArray, List.set_cons_zero, List.set_cons_succ, i64_w, i32_w]
                        rfl
                      refine take_ (i := 2) (N := some 19) (v := ?_) (a' := ?_) #[true, false, true, false, false, false, false, false, false, false, false, false, false, false, false, false, false, false, false, false, false, false, false, false, false, false, false, false, false, false, false, false, false, false, false, false, false, false, false, false, false, false, false, false, false, false, false, false, false, false, false, false, false, false] rfl rfl (take_ofW HT_.out HW_.out (by kernel_rfl)) (fun _ _ _ h => h) (Or.inl ⟨by rfl, ?_⟩) hHeld ?_ ?_
                      rotate_left
                      · rintro w' ⟨s0, s1, s2, s3, s4, s5⟩
                        go_simp
                        with_reducible rfl
                      rotate_left
                      · simp only [Act.put, List.setIfInBounds_toArray, List.set_cons_zero, List.set_cons_succ, i64_w, i32_w]
                        rfl
                      refine one_ (i := 1) (N := some 18) #[true, true, true, false, false, false, false, false, false, false, false, false, false, false, false, false, false, false, false, false, false, false, false, false, false, false, false, false, false, false, false, false, false, false, false, false, false, false, false, false, false, false, false, false, false, false, false, false, false, false, false, false, false, false] rfl rfl (one_of HT_.out (by kernel_rfl)) (by decide) (fun K hK => ?_)
                      refine goes_ Tryd.func18 (by kernel_rfl) rfl #[.agg #[.int .i64 a0_0, .int .i64 a0_1, .string a0_2]] (by rfl) rfl rfl (by (try simp only [List.map_toArray, List.map_cons, List.map_nil]); first | done | rfl | (simp only [List.length_drop, List.length_take]; rfl)) ?_
                      with_reducible refine (words_Index.calls a0_0 a0_1 a0_2 t165 _ A16.out).mono ?_
                      rintro e w37 ⟨rfl, hb⟩
                      refine ⟨_, rfl, ?_⟩
                      have n0_ := Aside0.mk (blk_below (g := gb162) (o := .cells #[.int .i64 a0_0, .int .i64 a0_1, .string a0_2] 32 (0, 0)) (by (with_reducible repeat (first | refine blk_drewN ?_ _ | refine blk_drew ?_ | refine blk_alloc ?_ _)); exact BK162.out) hb)
                      have n1_ := Aside0.mk (blk_below (g := gb163) (o := .cells #[.int .i64 a1_0, .int .i64 a1_1, .string a1_2] 32 (0, 0)) (by (with_reducible repeat (first | refine blk_drewN ?_ _ | refine blk_drew ?_ | refine blk_alloc ?_ _)); exact BK163.out) hb)
                      have n2_ := Aside0.mk (below_step (by repeat (first | (with_reducible first | exact HB.out | apply below_alloc | apply pw_below_drewN | apply below_drew1 | refine below_set ?_ GE162.out | refine below_set ?_ GE163.out) | exact HB.out)) hb)
                      clear BK162
                      clear BK163
                      clear HB
                      have BK162 := n0_
                      have BK163 := n1_
                      have HB := n2_
                      clear n0_ n1_ n2_
                      (try clear hb)
                      (try clear hb2)
                      (try clear hk)
                      (try clear hi)
                      refine hK.out _ _ ⟨(blk_cell BK162.out 0).trans rfl, (blk_cell BK162.out 1).trans rfl, (blk_cell BK162.out 2).trans rfl, (blk_cell BK163.out 0).trans rfl, (blk_cell BK163.out 1).trans rfl, (blk_cell BK163.out 2).trans rfl⟩ (fun hHeld => ?_)
                      clear hK K
                      refine norm_ (a' := ?_) ?_ ?_
                      rotate_left
                      · show Act.put _ (some 18) _ = _
                        simp only [Act.put, List.setIfInBounds_toArray, List.set_cons_zero, List.set_cons_succ, i64_w, i32_w]
                        rfl
                      refine one_ (i := 3) (N := some 20) #[true, true, true, true, false, false, false, false, false, false, false, false, false, false, false, false, false, false, false, false, false, false, false, false, false, false, false, false, false, false, false, false, false, false, false, false, false, false, false, false, false, false, false, false, false, false, false, false, false, false, false, false, false, false] rfl rfl (one_of HT_.out (by kernel_rfl)) (by decide) (fun K hK => ?_)
                      refine goes_ Tryd.func19 (by kernel_rfl) rfl #[.agg #[.int .i64 a0_0, .int .i64 a0_1, .string a0_2]] (by rfl) rfl rfl (by (try simp only [List.map_toArray, List.map_cons, List.map_nil]); first | done | rfl | (simp only [List.length_drop, List.length_take]; rfl)) ?_
                      with_reducible refine (selkieref10_Index.calls a0_0 a0_1 a0_2 t166 _ A17.out).mono ?_
                      rintro e w38 ⟨rfl, hb⟩
                      refine ⟨_, rfl, ?_⟩
                      have n0_ := Aside0.mk (blk_below (g := gb162) (o := .cells #[.int .i64 a0_0, .int .i64 a0_1, .string a0_2] 32 (0, 0)) (by (with_reducible repeat (first | refine blk_drewN ?_ _ | refine blk_drew ?_ | refine blk_alloc ?_ _)); exact BK162.out) hb)
                      have n1_ := Aside0.mk (blk_below (g := gb163) (o := .cells #[.int .i64 a1_0, .int .i64 a1_1, .string a1_2] 32 (0, 0)) (by (with_reducible repeat (first | refine blk_drewN ?_ _ | refine blk_drew ?_ | refine blk_alloc ?_ _)); exact BK163.out) hb)
                      have n2_ := Aside0.mk (below_step (by repeat (first | (with_reducible first | exact HB.out | apply below_alloc | apply pw_below_drewN | apply below_drew1 | refine below_set ?_ GE162.out | refine below_set ?_ GE163.out) | exact HB.out)) hb)
                      clear BK162
                      clear BK163
                      clear HB
                      have BK162 := n0_
                      have BK163 := n1_
                      have HB := n2_
                      clear n0_ n1_ n2_
                      (try clear hb)
                      (try clear hb2)
                      (try clear hk)
                      (try clear hi)
                      refine hK.out _ _ ⟨(blk_cell BK162.out 0).trans rfl, (blk_cell BK162.out 1).trans rfl, (blk_cell BK162.out 2).trans rfl, (blk_cell BK163.out 0).trans rfl, (blk_cell BK163.out 1).trans rfl, (blk_cell BK163.out 2).trans rfl⟩ (fun hHeld => ?_)
                      clear hK K
                      refine norm_ (a' := ?_) ?_ ?_
                      rotate_left
                      · show Act.put _ (some 20) _ = _
                        simp only [Act.put, List.setIfInBounds_toArray, List.set_cons_zero, List.set_cons_succ, i64_w, i32_w]
                        rfl
                      refine pure_ (i := 4) (N := some 21) (v := ?_) (a' := ?_) #[true, true, true, true, true, false, false, false, false, false, false, false, false, false, false, false, false, false, false, false, false, false, false, false, false, false, false, false, false, false, false, false, false, false, false, false, false, false, false, false, false, false, false, false, false, false, false, false, false, false, false, false, false, false] rfl rfl (any_of HT_.out (by kernel_rfl)) (fun _ _ _ h => h) (Or.inl ⟨by rfl, ?_⟩) ?_ ?_
                      rotate_left
                      · intro w'
                        go_simp
                        with_reducible rfl
                      rotate_left
                      · simp only [Act.put, List.setIfInBounds_toArray, List.set_cons_zero, List.set_cons_succ, i64_w, i32_w]
                        rfl
                      refine pure_ (i := 5) (N := some 22) (v := ?_) (a' := ?_) #[true, true, true, true, true, true, false, false, false, false, false, false, false, false, false, false, false, false, false, false, false, false, false, false, false, false, false, false, false, false, false, false, false, false, false, false, false, false, false, false, false, false, false, false, false, false, false, false, false, false, false, false, false, false] rfl rfl (any_of HT_.out (by kernel_rfl)) (fun _ _ _ h => h) (Or.inl ⟨by rfl, ?_⟩) ?_ ?_
                      rotate_left
                      · intro w'
                        go_simp
                        with_reducible rfl
                      rotate_left
                      · simp only [Act.put, List.setIfInBounds_toArray, List.set_cons_zero, List.set_cons_succ, i64_w, i32_w]
                        rfl
                      refine take_ (i := 6) (N := some 23) (v := ?_) (a' := ?_) #[true, true, true, true, true, true, true, false, false, false, false, false, false, false, false, false, false, false, false, false, false, false, false, false, false, false, false, false, false, false, false, false, false, false, false, false, false, false, false, false, false, false, false, false, false, false, false, false, false, false, false, false, false, false] rfl rfl (take_ofW HT_.out HW_.out (by kernel_rfl)) (fun _ _ _ h => h) (Or.inl ⟨by rfl, ?_⟩) hHeld ?_ ?_
                      rotate_left
                      · rintro w' ⟨s0, s1, s2, s3, s4, s5⟩
                        go_simp
                        with_reducible rfl
                      rotate_left
                      · simp only [Act.put, List.setIfInBounds_toArray, List.set_cons_zero, List.set_cons_succ, i64_w, i32_w]
                        rfl
                      refine take_ (i := 8) (N := some 25) (v := ?_) (a' := ?_) #[true, true, true, true, true, true, true, false, true, false, false, false, false, false, false, false, false, false, false, false, false, false, false, false, false, false, false, false, false, false, false, false, false, false, false, false, false, false, false, false, false, false, false, false, false, false, false, false, false, false, false, false, false, false] rfl rfl (take_ofW HT_.out HW_.out (by kernel_rfl)) (fun _ _ _ h => h) (Or.inl ⟨by rfl, ?_⟩) hHeld ?_ ?_
                      rotate_left
                      · rintro w' ⟨s0, s1, s2, s3, s4, s5⟩
                        go_simp
                        with_reducible rfl
                      rotate_left
                      · simp only [Act.put, List.setIfInBounds_toArray, List.set_cons_zero, List.set_cons_succ, i64_w, i32_w]
                        rfl
                      refine one_ (i := 7) (N := some 24) #[true, true, true, true, true, true, true, true, true, false, false, false, false, false, false, false, false, false, false, false, false, false, false, false, false, false, false, false, false, false, false, false, false, false, false, false, false, false, false, false, false, false, false, false, false, false, false, false, false, false, false, false, false, false] rfl rfl (one_of HT_.out (by kernel_rfl)) (by decide) (fun K hK => ?_)
                      refine goes_ Tryd.func20 (by kernel_rfl) rfl #[.agg #[.int .i64 a0_0, .int .i64 a0_1, .string a0_2]] (by rfl) rfl rfl (by (try simp only [List.map_toArray, List.map_cons, List.map_nil]); first | done | rfl | (simp only [List.length_drop, List.length_take]; rfl)) ?_
                      with_reducible refine (words_Call.calls a0_0 a0_1 a0_2 t167 _ A19.out).mono ?_
                      rintro e w39 ⟨rfl, hb⟩
                      refine ⟨_, rfl, ?_⟩
                      have n0_ := Aside0.mk (blk_below (g := gb162) (o := .cells #[.int .i64 a0_0, .int .i64 a0_1, .string a0_2] 32 (0, 0)) (by (with_reducible repeat (first | refine blk_drewN ?_ _ | refine blk_drew ?_ | refine blk_alloc ?_ _)); exact BK162.out) hb)
                      have n1_ := Aside0.mk (blk_below (g := gb163) (o := .cells #[.int .i64 a1_0, .int .i64 a1_1, .string a1_2] 32 (0, 0)) (by (with_reducible repeat (first | refine blk_drewN ?_ _ | refine blk_drew ?_ | refine blk_alloc ?_ _)); exact BK163.out) hb)
                      have n2_ := Aside0.mk (below_step (by repeat (first | (with_reducible first | exact HB.out | apply below_alloc | apply pw_below_drewN | apply below_drew1 | refine below_set ?_ GE162.out | refine below_set ?_ GE163.out) | exact HB.out)) hb)
                      clear BK162
                      clear BK163
                      clear HB
                      have BK162 := n0_
                      have BK163 := n1_
                      have HB := n2_
                      clear n0_ n1_ n2_
                      (try clear hb)
                      (try clear hb2)
                      (try clear hk)
                      (try clear hi)
                      refine hK.out _ _ ⟨(blk_cell BK162.out 0).trans rfl, (blk_cell BK162.out 1).trans rfl, (blk_cell BK162.out 2).trans rfl, (blk_cell BK163.out 0).trans rfl, (blk_cell BK163.out 1).trans rfl, (blk_cell BK163.out 2).trans rfl⟩ (fun hHeld => ?_)
                      clear hK K
                      refine norm_ (a' := ?_) ?_ ?_
                      rotate_left
                      · show Act.put _ (some 24) _ = _
                        simp only [Act.put, List.setIfInBounds_toArray, List.set_cons_zero, List.set_cons_succ, i64_w, i32_w]
                        rfl
                      refine one_ (i := 9) (N := some 26) #[true, true, true, true, true, true, true, true, true, true, false, false, false, false, false, false, false, false, false, false, false, false, false, false, false, false, false, false, false, false, false, false, false, false, false, false, false, false, false, false, false, false, false, false, false, false, false, false, false, false, false, false, false, false] rfl rfl (one_of HT_.out (by kernel_rfl)) (by decide) (fun K hK => ?_)
                      refine goes_ Tryd.func21 (by kernel_rfl) rfl #[.agg #[.int .i64 a0_0, .int .i64 a0_1, .string a0_2]] (by rfl) rfl rfl (by (try simp only [List.map_toArray, List.map_cons, List.map_nil]); first | done | rfl | (simp only [List.length_drop, List.length_take]; rfl)) ?_
                      with_reducible refine (selkieref10_Call.calls a0_0 a0_1 a0_2 t168 _ A20.out).mono ?_
                      rintro e w40 ⟨rfl, hb⟩
                      refine ⟨_, rfl, ?_⟩
                      have n0_ := Aside0.mk (blk_below (g := gb162) (o := .cells #[.int .i64 a0_0, .int .i64 a0_1, .string a0_2] 32 (0, 0)) (by (with_reducible repeat (first | refine blk_drewN ?_ _ | refine blk_drew ?_ | refine blk_alloc ?_ _)); exact BK162.out) hb)
                      have n1_ := Aside0.mk (blk_below (g := gb163) (o := .cells #[.int .i64 a1_0, .int .i64 a1_1, .string a1_2] 32 (0, 0)) (by (with_reducible repeat (first | refine blk_drewN ?_ _ | refine blk_drew ?_ | refine blk_alloc ?_ _)); exact BK163.out) hb)
                      have n2_ := Aside0.mk (below_step (by repeat (first | (with_reducible first | exact HB.out | apply below_alloc | apply pw_below_drewN | apply below_drew1 | refine below_set ?_ GE162.out | refine below_set ?_ GE163.out) | exact HB.out)) hb)
                      clear BK162
                      clear BK163
                      clear HB
                      have BK162 := n0_
                      have BK163 := n1_
                      have HB := n2_
                      clear n0_ n1_ n2_
                      (try clear hb)
                      (try clear hb2)
                      (try clear hk)
                      (try clear hi)
                      refine hK.out _ _ ⟨(blk_cell BK162.out 0).trans rfl, (blk_cell BK162.out 1).trans rfl, (blk_cell BK162.out 2).trans rfl, (blk_cell BK163.out 0).trans rfl, (blk_cell BK163.out 1).trans rfl, (blk_cell BK163.out 2).trans rfl⟩ (fun hHeld => ?_)
                      clear hK K
                      refine norm_ (a' := ?_) ?_ ?_
                      rotate_left
                      · show Act.put _ (some 26) _ = _
                        simp only [Act.put, List.setIfInBounds_toArray, List.set_cons_zero, List.set_cons_succ, i64_w, i32_w]
                        rfl
                      refine pure_ (i := 10) (N := some 27) (v := ?_) (a' := ?_) #[true, true, true, true, true, true, true, true, true, true, true, false, false, false, false, false, false, false, false, false, false, false, false, false, false, false, false, false, false, false, false, false, false, false, false, false, false, false, false, false, false, false, false, false, false, false, false, false, false, false, false, false, false, false] rfl rfl (any_of HT_.out (by kernel_rfl)) (fun _ _ _ h => h) (Or.inl ⟨by rfl, ?_⟩) ?_ ?_
                      rotate_left
                      · intro w'
                        go_simp
                        with_reducible rfl
                      rotate_left
                      · simp only [Act.put, List.setIfInBounds_toArray, List.set_cons_zero, List.set_cons_succ, i64_w, i32_w]
                        rfl
                      refine pure_ (i := 11) (N := some 28) (v := ?_) (a' := ?_) #[true, true, true, true, true, true, true, true, true, true, true, true, false, false, false, false, false, false, false, false, false, false, false, false, false, false, false, false, false, false, false, false, false, false, false, false, false, false, false, false, false, false, false, false, false, false, false, false, false, false, false, false, false, false] rfl rfl (any_of HT_.out (by kernel_rfl)) (fun _ _ _ h => h) (Or.inl ⟨by rfl, ?_⟩) ?_ ?_
                      rotate_left
                      · intro w'
                        go_simp
                        with_reducible rfl
                      rotate_left
                      · simp only [Act.put, List.setIfInBounds_toArray, List.set_cons_zero, List.set_cons_succ, i64_w, i32_w]
                        rfl
                      refine pure_ (i := 12) (N := some 29) (v := ?_) (a' := ?_) #[true, true, true, true, true, true, true, true, true, true, true, true, true, false, false, false, false, false, false, false, false, false, false, false, false, false, false, false, false, false, false, false, false, false, false, false, false, false, false, false, false, false, false, false, false, false, false, false, false, false, false, false, false, false] rfl rfl (any_of HT_.out (by kernel_rfl)) (fun _ _ _ h => h) (Or.inl ⟨by rfl, ?_⟩) ?_ ?_
                      rotate_left
                      · intro w'
                        go_simp
                        with_reducible rfl
                      rotate_left
                      · simp only [Act.put, List.setIfInBounds_toArray, List.set_cons_zero, List.set_cons_succ, i64_w, i32_w]
                        rfl
                      refine take_ (i := 13) (N := some 30) (v := ?_) (a' := ?_) #[true, true, true, true, true, true, true, true, true, true, true, true, true, true, false, false, false, false, false, false, false, false, false, false, false, false, false, false, false, false, false, false, false, false, false, false, false, false, false, false, false, false, false, false, false, false, false, false, false, false, false, false, false, false] rfl rfl (take_ofW HT_.out HW_.out (by kernel_rfl)) (fun _ _ _ h => h) (Or.inl ⟨by rfl, ?_⟩) hHeld ?_ ?_
                      rotate_left
                      · rintro w' ⟨s0, s1, s2, s3, s4, s5⟩
                        go_simp
                        with_reducible rfl
                      rotate_left
                      · simp only [Act.put, List.setIfInBounds_toArray, List.set_cons_zero, List.set_cons_succ, i64_w, i32_w]
                        rfl
                      refine take_ (i := 15) (N := some 32) (v := ?_) (a' := ?_) #[true, true, true, true, true, true, true, true, true, true, true, true, true, true, false, true, false, false, false, false, false, false, false, false, false, false, false, false, false, false, false, false, false, false, false, false, false, false, false, false, false, false, false, false, false, false, false, false, false, false, false, false, false, false] rfl rfl (take_ofW HT_.out HW_.out (by kernel_rfl)) (fun _ _ _ h => h) (Or.inl ⟨by rfl, ?_⟩) hHeld ?_ ?_
                      rotate_left
                      · rintro w' ⟨s0, s1, s2, s3, s4, s5⟩
                        go_simp
                        with_reducible rfl
                      rotate_left
                      · simp only [Act.put, List.setIfInBounds_toArray, List.set_cons_zero, List.set_cons_succ, i64_w, i32_w]
                        rfl
                      refine one_ (i := 14) (N := some 31) #[true, true, true, true, true, true, true, true, true, true, true, true, true, true, true, true, false, false, false, false, false, false, false, false, false, false, false, false, false, false, false, false, false, false, false, false, false, false, false, false, false, false, false, false, false, false, false, false, false, false, false, false, false, false] rfl rfl (one_of HT_.out (by kernel_rfl)) (by decide) (fun K hK => ?_)
                      refine goes_ Tryd.func22 (by kernel_rfl) rfl #[.agg #[.int .i64 a0_0, .int .i64 a0_1, .string a0_2]] (by rfl) rfl rfl (by (try simp only [List.map_toArray, List.map_cons, List.map_nil]); first | done | rfl | (simp only [List.length_drop, List.length_take]; rfl)) ?_
                      with_reducible refine (words_Len.calls a0_0 a0_1 a0_2 t169 _ A22.out).mono ?_
                      rintro e w41 ⟨rfl, hb⟩
                      refine ⟨_, rfl, ?_⟩
                      have n0_ := Aside0.mk (blk_below (g := gb162) (o := .cells #[.int .i64 a0_0, .int .i64 a0_1, .string a0_2] 32 (0, 0)) (by (with_reducible repeat (first | refine blk_drewN ?_ _ | refine blk_drew ?_ | refine blk_alloc ?_ _)); exact BK162.out) hb)
                      have n1_ := Aside0.mk (blk_below (g := gb163) (o := .cells #[.int .i64 a1_0, .int .i64 a1_1, .string a1_2] 32 (0, 0)) (by (with_reducible repeat (first | refine blk_drewN ?_ _ | refine blk_drew ?_ | refine blk_alloc ?_ _)); exact BK163.out) hb)
                      have n2_ := Aside0.mk (below_step (by repeat (first | (with_reducible first | exact HB.out | apply below_alloc | apply pw_below_drewN | apply below_drew1 | refine below_set ?_ GE162.out | refine below_set ?_ GE163.out) | exact HB.out)) hb)
                      clear BK162
                      clear BK163
                      clear HB
                      have BK162 := n0_
                      have BK163 := n1_
                      have HB := n2_
                      clear n0_ n1_ n2_
                      (try clear hb)
                      (try clear hb2)
                      (try clear hk)
                      (try clear hi)
                      refine hK.out _ _ ⟨(blk_cell BK162.out 0).trans rfl, (blk_cell BK162.out 1).trans rfl, (blk_cell BK162.out 2).trans rfl, (blk_cell BK163.out 0).trans rfl, (blk_cell BK163.out 1).trans rfl, (blk_cell BK163.out 2).trans rfl⟩ (fun hHeld => ?_)
                      clear hK K
                      refine norm_ (a' := ?_) ?_ ?_
                      rotate_left
                      · show Act.put _ (some 31) _ = _
                        simp only [Act.put, List.setIfInBounds_toArray, List.set_cons_zero, List.set_cons_succ, i64_w, i32_w]
                        rfl
                      refine one_ (i := 16) (N := some 33) #[true, true, true, true, true, true, true, true, true, true, true, true, true, true, true, true, true, false, false, false, false, false, false, false, false, false, false, false, false, false, false, false, false, false, false, false, false, false, false, false, false, false, false, false, false, false, false, false, false, false, false, false, false, false] rfl rfl (one_of HT_.out (by kernel_rfl)) (by decide) (fun K hK => ?_)
                      refine goes_ Tryd.func23 (by kernel_rfl) rfl #[.agg #[.int .i64 a0_0, .int .i64 a0_1, .string a0_2]] (by rfl) rfl rfl (by (try simp only [List.map_toArray, List.map_cons, List.map_nil]); first | done | rfl | (simp only [List.length_drop, List.length_take]; rfl)) ?_
                      with_reducible refine (selkieref10_Len.calls a0_0 a0_1 a0_2 t170 _ A23.out).mono ?_
                      rintro e w42 ⟨rfl, hb⟩
                      refine ⟨_, rfl, ?_⟩
                      have n0_ := Aside0.mk (blk_below (g := gb162) (o := .cells #[.int .i64 a0_0, .int .i64 a0_1, .string a0_2] 32 (0, 0)) (by (with_reducible repeat (first | refine blk_drewN ?_ _ | refine blk_drew ?_ | refine blk_alloc ?_ _)); exact BK162.out) hb)
                      have n1_ := Aside0.mk (blk_below (g := gb163) (o := .cells #[.int .i64 a1_0, .int .i64 a1_1, .string a1_2] 32 (0, 0)) (by (with_reducible repeat (first | refine blk_drewN ?_ _ | refine blk_drew ?_ | refine blk_alloc ?_ _)); exact BK163.out) hb)
                      have n2_ := Aside0.mk (below_step (by repeat (first | (with_reducible first | exact HB.out | apply below_alloc | apply pw_below_drewN | apply below_drew1 | refine below_set ?_ GE162.out | refine below_set ?_ GE163.out) | exact HB.out)) hb)
                      clear BK162
                      clear BK163
                      clear HB
                      have BK162 := n0_
                      have BK163 := n1_
                      have HB := n2_
                      clear n0_ n1_ n2_
                      (try clear hb)
                      (try clear hb2)
                      (try clear hk)
                      (try clear hi)
                      refine hK.out _ _ ⟨(blk_cell BK162.out 0).trans rfl, (blk_cell BK162.out 1).trans rfl, (blk_cell BK162.out 2).trans rfl, (blk_cell BK163.out 0).trans rfl, (blk_cell BK163.out 1).trans rfl, (blk_cell BK163.out 2).trans rfl⟩ (fun hHeld => ?_)
                      clear hK K
                      refine norm_ (a' := ?_) ?_ ?_
                      rotate_left
                      · show Act.put _ (some 33) _ = _
                        simp only [Act.put, List.setIfInBounds_toArray, List.set_cons_zero, List.set_cons_succ, i64_w, i32_w]
                        rfl
                      refine pure_ (i := 17) (N := some 34) (v := ?_) (a' := ?_) #[true, true, true, true, true, true, true, true, true, true, true, true, true, true, true, true, true, true, false, false, false, false, false, false, false, false, false, false, false, false, false, false, false, false, false, false, false, false, false, false, false, false, false, false, false, false, false, false, false, false, false, false, false, false] rfl rfl (any_of HT_.out (by kernel_rfl)) (fun _ _ _ h => h) (Or.inl ⟨by rfl, ?_⟩) ?_ ?_
                      rotate_left
                      · intro w'
                        go_simp
                        with_reducible rfl
                      rotate_left
                      · simp only [Act.put, List.setIfInBounds_toArray, List.set_cons_zero, List.set_cons_succ, i64_w, i32_w]
                        rfl
                      refine pure_ (i := 18) (N := some 35) (v := ?_) (a' := ?_) #[true, true, true, true, true, true, true, true, true, true, true, true, true, true, true, true, true, true, true, false, false, false, false, false, false, false, false, false, false, false, false, false, false, false, false, false, false, false, false, false, false, false, false, false, false, false, false, false, false, false, false, false, false, false] rfl rfl (any_of HT_.out (by kernel_rfl)) (fun _ _ _ h => h) (Or.inl ⟨by rfl, ?_⟩) ?_ ?_
                      rotate_left
                      · intro w'
                        go_simp
                        with_reducible rfl
                      rotate_left
                      · simp only [Act.put, List.setIfInBounds_toArray, List.set_cons_zero, List.set_cons_succ, i64_w, i32_w]
                        rfl
                      refine pure_ (i := 19) (N := some 36) (v := ?_) (a' := ?_) #[true, true, true, true, true, true, true, true, true, true, true, true, true, true, true, true, true, true, true, true, false, false, false, false, false, false, false, false, false, false, false, false, false, false, false, false, false, false, false, false, false, false, false, false, false, false, false, false, false, false, false, false, false, false] rfl rfl (any_of HT_.out (by kernel_rfl)) (fun _ _ _ h => h) (Or.inl ⟨by rfl, ?_⟩) ?_ ?_
                      rotate_left
                      · intro w'
                        go_simp
                        with_reducible rfl
                      rotate_left
                      · simp only [Act.put, List.setIfInBounds_toArray, List.set_cons_zero, List.set_cons_succ, i64_w, i32_w]
                        rfl
                      refine take_ (i := 20) (N := some 37) (v := ?_) (a' := ?_) #[true, true, true, true, true, true, true, true, true, true, true, true, true, true, true, true, true, true, true, true, true, false, false, false, false, false, false, false, false, false, false, false, false, false, false, false, false, false, false, false, false, false, false, false, false, false, false, false, false, false, false, false, false, false] rfl rfl (take_ofW HT_.out HW_.out (by kernel_rfl)) (fun _ _ _ h => h) (Or.inl ⟨by rfl, ?_⟩) hHeld ?_ ?_
                      rotate_left
                      · rintro w' ⟨s0, s1, s2, s3, s4, s5⟩
                        go_simp
                        with_reducible rfl
                      rotate_left
                      · simp only [Act.put, List.setIfInBounds_toArray, List.set_cons_zero, List.set_cons_succ, i64_w, i32_w]
                        rfl
                      refine take_ (i := 21) (N := some 38) (v := ?_) (a' := ?_) #[true, true, true, true, true, true, true, true, true, true, true, true, true, true, true, true, true, true, true, true, true, true, false, false, false, false, false, false, false, false, false, false, false, false, false, false, false, false, false, false, false, false, false, false, false, false, false, false, false, false, false, false, false, false] rfl rfl (take_ofW HT_.out HW_.out (by kernel_rfl)) (fun _ _ _ h => h) (Or.inl ⟨by rfl, ?_⟩) hHeld ?_ ?_
                      rotate_left
                      · rintro w' ⟨s0, s1, s2, s3, s4, s5⟩
                        go_simp
                        with_reducible rfl
                      rotate_left
                      · simp only [Act.put, List.setIfInBounds_toArray, List.set_cons_zero, List.set_cons_succ, i64_w, i32_w]
                        rfl
                      refine take_ (i := 23) (N := some 40) (v := ?_) (a' := ?_) #[true, true, true, true, true, true, true, true, true, true, true, true, true, true, true, true, true, true, true, true, true, true, false, true, false, false, false, false, false, false, false, false, false, false, false, false, false, false, false, false, false, false, false, false, false, false, false, false, false, false, false, false, false, false] rfl rfl (take_ofW HT_.out HW_.out (by kernel_rfl)) (fun _ _ _ h => h) (Or.inl ⟨by rfl, ?_⟩) hHeld ?_ ?_
                      rotate_left
                      · rintro w' ⟨s0, s1, s2, s3, s4, s5⟩
                        go_simp
                        with_reducible rfl
                      rotate_left
                      · simp only [Act.put, List.setIfInBounds_toArray, List.set_cons_zero, List.set_cons_succ, i64_w, i32_w]
                        rfl
                      refine take_ (i := 24) (N := some 41) (v := ?_) (a' := ?_) #[true, true, true, true, true, true, true, true, true, true, true, true, true, true, true, true, true, true, true, true, true, true, false, true, true, false, false, false, false, false, false, false, false, false, false, false, false, false, false, false, false, false, false, false, false, false, false, false, false, false, false, false, false, false] rfl rfl (take_ofW HT_.out HW_.out (by kernel_rfl)) (fun _ _ _ h => h) (Or.inl ⟨by rfl, ?_⟩) hHeld ?_ ?_
                      rotate_left
                      · rintro w' ⟨s0, s1, s2, s3, s4, s5⟩
                        go_simp
                        with_reducible rfl
                      rotate_left
                      · simp only [Act.put, List.setIfInBounds_toArray, List.set_cons_zero, List.set_cons_succ, i64_w, i32_w]
                        rfl
                      refine one_ (i := 22) (N := some 39) #[true, true, true, true, true, true, true, true, true, true, true, true, true, true, true, true, true, true, true, true, true, true, true, true, true, false, false, false, false, false, false, false, false, false, false, false, false, false, false, false, false, false, false, false, false, false, false, false, false, false, false, false, false, false] rfl rfl (one_of HT_.out (by kernel_rfl)) (by decide) (fun K hK => ?_)
                      refine goes_ Tryd.func24 (by kernel_rfl) rfl #[.agg #[.int .i64 a0_0, .int .i64 a0_1, .string a0_2], .agg #[.int .i64 a1_0, .int .i64 a1_1, .string a1_2]] (by rfl) rfl rfl (by (try simp only [List.map_toArray, List.map_cons, List.map_nil]); first | done | rfl | (simp only [List.length_drop, List.length_take]; rfl)) ?_
                      with_reducible refine (words_Arith.calls a0_0 a0_1 a0_2 a1_0 a1_1 a1_2 t171 _ (HTT.out.on (by repeat (first | (with_reducible first | exact HB.out | apply below_alloc | apply pw_below_drewN | apply below_drew1 | refine below_set ?_ GE162.out | refine below_set ?_ GE163.out) | exact HB.out))) A25.out).mono ?_
                      rintro e w43 ⟨rfl, hb⟩
                      refine ⟨_, rfl, ?_⟩
                      have n0_ := Aside0.mk (blk_below (g := gb162) (o := .cells #[.int .i64 a0_0, .int .i64 a0_1, .string a0_2] 32 (0, 0)) (by (with_reducible repeat (first | refine blk_drewN ?_ _ | refine blk_drew ?_ | refine blk_alloc ?_ _)); exact BK162.out) hb)
                      have n1_ := Aside0.mk (blk_below (g := gb163) (o := .cells #[.int .i64 a1_0, .int .i64 a1_1, .string a1_2] 32 (0, 0)) (by (with_reducible repeat (first | refine blk_drewN ?_ _ | refine blk_drew ?_ | refine blk_alloc ?_ _)); exact BK163.out) hb)
                      have n2_ := Aside0.mk (below_step (by repeat (first | (with_reducible first | exact HB.out | apply below_alloc | apply pw_below_drewN | apply below_drew1 | refine below_set ?_ GE162.out | refine below_set ?_ GE163.out) | exact HB.out)) hb)
                      clear BK162
                      clear BK163
                      clear HB
                      have BK162 := n0_
                      have BK163 := n1_
                      have HB := n2_
                      clear n0_ n1_ n2_
                      (try clear hb)
                      (try clear hb2)
                      (try clear hk)
                      (try clear hi)
                      refine hK.out _ _ ⟨(blk_cell BK162.out 0).trans rfl, (blk_cell BK162.out 1).trans rfl, (blk_cell BK162.out 2).trans rfl, (blk_cell BK163.out 0).trans rfl, (blk_cell BK163.out 1).trans rfl, (blk_cell BK163.out 2).trans rfl⟩ (fun hHeld => ?_)
                      clear hK K
                      refine norm_ (a' := ?_) ?_ ?_
                      rotate_left
                      · show Act.put _ (some 39) _ = _
                        simp only [Act.put, List.setIfInBounds_toArray, List.set_cons_zero, List.set_cons_succ, i64_w, i32_w]
                        rfl
                      refine one_ (i := 25) (N := some 42) #[true, true, true, true, true, true, true, true, true, true, true, true, true, true, true, true, true, true, true, true, true, true, true, true, true, true, false, false, false, false, false, false, false, false, false, false, false, false, false, false, false, false, false, false, false, false, false, false, false, false, false, false, false, false] rfl rfl (one_of HT_.out (by kernel_rfl)) (by decide) (fun K hK => ?_)
                      refine goes_ Tryd.func25 (by kernel_rfl) rfl #[.agg #[.int .i64 a0_0, .int .i64 a0_1, .string a0_2], .agg #[.int .i64 a1_0, .int .i64 a1_1, .string a1_2]] (by rfl) rfl rfl (by (try simp only [List.map_toArray, List.map_cons, List.map_nil]); first | done | rfl | (simp only [List.length_drop, List.length_take]; rfl)) ?_
                      with_reducible refine (selkieref10_Arith.calls a0_0 a0_1 a0_2 a1_0 a1_1 a1_2 t172 _ (HTT.out.on (by repeat (first | (with_reducible first | exact HB.out | apply below_alloc | apply pw_below_drewN | apply below_drew1 | refine below_set ?_ GE162.out | refine below_set ?_ GE163.out) | exact HB.out))) A26.out).mono ?_
                      rintro e w44 ⟨rfl, hb⟩
                      refine ⟨_, rfl, ?_⟩
                      have n0_ := Aside0.mk (blk_below (g := gb162) (o := .cells #[.int .i64 a0_0, .int .i64 a0_1, .string a0_2] 32 (0, 0)) (by (with_reducible repeat (first | refine blk_drewN ?_ _ | refine blk_drew ?_ | refine blk_alloc ?_ _)); exact BK162.out) hb)
                      have n1_ := Aside0.mk (blk_below (g := gb163) (o := .cells #[.int .i64 a1_0, .int .i64 a1_1, .string a1_2] 32 (0, 0)) (by (with_reducible repeat (first | refine blk_drewN ?_ _ | refine blk_drew ?_ | refine blk_alloc ?_ _)); exact BK163.out) hb)
                      have n2_ := Aside0.mk (below_step (by repeat (first | (with_reducible first | exact HB.out | apply below_alloc | apply pw_below_drewN | apply below_drew1 | refine below_set ?_ GE162.out | refine below_set ?_ GE163.out) | exact HB.out)) hb)
                      clear BK162
                      clear BK163
                      clear HB
                      have BK162 := n0_
                      have BK163 := n1_
                      have HB := n2_
                      clear n0_ n1_ n2_
                      (try clear hb)
                      (try clear hb2)
                      (try clear hk)
                      (try clear hi)
                      refine hK.out _ _ ⟨(blk_cell BK162.out 0).trans rfl, (blk_cell BK162.out 1).trans rfl, (blk_cell BK162.out 2).trans rfl, (blk_cell BK163.out 0).trans rfl, (blk_cell BK163.out 1).trans rfl, (blk_cell BK163.out 2).trans rfl⟩ (fun hHeld => ?_)
                      clear hK K
                      refine norm_ (a' := ?_) ?_ ?_
                      rotate_left
                      · show Act.put _ (some 42) _ = _
                        simp only [Act.put, List.setIfInBounds_toArray, List.set_cons_zero, List.set_cons_succ, i64_w, i32_w]
                        rfl
                      refine pure_ (i := 26) (N := some 43) (v := ?_) (a' := ?_) #[true, true, true, true, true, true, true, true, true, true, true, true, true, true, true, true, true, true, true, true, true, true, true, true, true, true, true, false, false, false, false, false, false, false, false, false, false, false, false, false, false, false, false, false, false, false, false, false, false, false, false, false, false, false] rfl rfl (any_of HT_.out (by kernel_rfl)) (fun _ _ _ h => h) (Or.inl ⟨by rfl, ?_⟩) ?_ ?_
                      rotate_left
                      · intro w'
                        go_simp
                        with_reducible rfl
                      rotate_left
                      · simp only [Act.put, List.setIfInBounds_toArray, List.set_cons_zero, List.set_cons_succ, i64_w, i32_w]
                        rfl
                      refine pure_ (i := 27) (N := some 44) (v := ?_) (a' := ?_) #[true, true, true, true, true, true, true, true, true, true, true, true, true, true, true, true, true, true, true, true, true, true, true, true, true, true, true, true, false, false, false, false, false, false, false, false, false, false, false, false, false, false, false, false, false, false, false, false, false, false, false, false, false, false] rfl rfl (any_of HT_.out (by kernel_rfl)) (fun _ _ _ h => h) (Or.inl ⟨by rfl, ?_⟩) ?_ ?_
                      rotate_left
                      · intro w'
                        go_simp
                        with_reducible rfl
                      rotate_left
                      · simp only [Act.put, List.setIfInBounds_toArray, List.set_cons_zero, List.set_cons_succ, i64_w, i32_w]
                        rfl
                      refine pure_ (i := 28) (N := some 45) (v := ?_) (a' := ?_) #[true, true, true, true, true, true, true, true, true, true, true, true, true, true, true, true, true, true, true, true, true, true, true, true, true, true, true, true, true, false, false, false, false, false, false, false, false, false, false, false, false, false, false, false, false, false, false, false, false, false, false, false, false, false] rfl rfl (any_of HT_.out (by kernel_rfl)) (fun _ _ _ h => h) (Or.inl ⟨by rfl, ?_⟩) ?_ ?_
                      rotate_left
                      · intro w'
                        go_simp
                        with_reducible rfl
                      rotate_left
                      · simp only [Act.put, List.setIfInBounds_toArray, List.set_cons_zero, List.set_cons_succ, i64_w, i32_w]
                        rfl
                      refine take_ (i := 29) (N := some 46) (v := ?_) (a' := ?_) #[true, true, true, true, true, true, true, true, true, true, true, true, true, true, true, true, true, true, true, true, true, true, true, true, true, true, true, true, true, true, false, false, false, false, false, false, false, false, false, false, false, false, false, false, false, false, false, false, false, false, false, false, false, false] rfl rfl (take_ofW HT_.out HW_.out (by kernel_rfl)) (fun _ _ _ h => h) (Or.inl ⟨by rfl, ?_⟩) hHeld ?_ ?_
                      rotate_left
                      · rintro w' ⟨s0, s1, s2, s3, s4, s5⟩
                        go_simp
                        with_reducible rfl
                      rotate_left
                      · simp only [Act.put, List.setIfInBounds_toArray, List.set_cons_zero, List.set_cons_succ, i64_w, i32_w]
                        rfl
                      refine take_ (i := 30) (N := some 47) (v := ?_) (a' := ?_) #[true, true, true, true, true, true, true, true, true, true, true, true, true, true, true, true, true, true, true, true, true, true, true, true, true, true, true, true, true, true, true, false, false, false, false, false, false, false, false, false, false, false, false, false, false, false, false, false, false, false, false, false, false, false] rfl rfl (take_ofW HT_.out HW_.out (by kernel_rfl)) (fun _ _ _ h => h) (Or.inl ⟨by rfl, ?_⟩) hHeld ?_ ?_
                      rotate_left
                      · rintro w' ⟨s0, s1, s2, s3, s4, s5⟩
                        go_simp
                        with_reducible rfl
                      rotate_left
                      · simp only [Act.put, List.setIfInBounds_toArray, List.set_cons_zero, List.set_cons_succ, i64_w, i32_w]
                        rfl
                      refine take_ (i := 32) (N := some 49) (v := ?_) (a' := ?_) #[true, true, true, true, true, true, true, true, true, true, true, true, true, true, true, true, true, true, true, true, true, true, true, true, true, true, true, true, true, true, true, false, true, false, false, false, false, false, false, false, false, false, false, false, false, false, false, false, false, false, false, false, false, false] rfl rfl (take_ofW HT_.out HW_.out (by kernel_rfl)) (fun _ _ _ h => h) (Or.inl ⟨by rfl, ?_⟩) hHeld ?_ ?_
                      rotate_left
                      · rintro w' ⟨s0, s1, s2, s3, s4, s5⟩
                        go_simp
                        with_reducible rfl
                      rotate_left
                      · simp only [Act.put, List.setIfInBounds_toArray, List.set_cons_zero, List.set_cons_succ, i64_w, i32_w]
                        rfl
                      refine take_ (i := 33) (N := some 50) (v := ?_) (a' := ?_) #[true, true, true, true, true, true, true, true, true, true, true, true, true, true, true, true, true, true, true, true, true, true, true, true, true, true, true, true, true, true, true, false, true, true, false, false, false, false, false, false, false, false, false, false, false, false, false, false, false, false, false, false, false, false] rfl rfl (take_ofW HT_.out HW_.out (by kernel_rfl)) (fun _ _ _ h => h) (Or.inl ⟨by rfl, ?_⟩) hHeld ?_ ?_
                      rotate_left
                      · rintro w' ⟨s0, s1, s2, s3, s4, s5⟩
                        go_simp
                        with_reducible rfl
                      rotate_left
                      · simp only [Act.put, List.setIfInBounds_toArray, List.set_cons_zero, List.set_cons_succ, i64_w, i32_w]
                        rfl
                      refine one_ (i := 31) (N := some 48) #[true, true, true, true, true, true, true, true, true, true, true, true, true, true, true, true, true, true, true, true, true, true, true, true, true, true, true, true, true, true, true, true, true, true, false, false, false, false, false, false, false, false, false, false, false, false, false, false, false, false, false, false, false, false] rfl rfl (one_of HT_.out (by kernel_rfl)) (by decide) (fun K hK => ?_)
                      refine goes_ Tryd.func26 (by kernel_rfl) rfl #[.agg #[.int .i64 a0_0, .int .i64 a0_1, .string a0_2], .agg #[.int .i64 a1_0, .int .i64 a1_1, .string a1_2]] (by rfl) rfl rfl (by (try simp only [List.map_toArray, List.map_cons, List.map_nil]); first | done | rfl | (simp only [List.length_drop, List.length_take]; rfl)) ?_
                      with_reducible refine (words_Concat.calls a0_0 a0_1 a0_2 a1_0 a1_1 a1_2 t173 _ (HTT.out.on (by repeat (first | (with_reducible first | exact HB.out | apply below_alloc | apply pw_below_drewN | apply below_drew1 | refine below_set ?_ GE162.out | refine below_set ?_ GE163.out) | exact HB.out))) A28.out).mono ?_
                      rintro e w45 ⟨rfl, hb⟩
                      refine ⟨_, rfl, ?_⟩
                      have n0_ := Aside0.mk (blk_below (g := gb162) (o := .cells #[.int .i64 a0_0, .int .i64 a0_1, .string a0_2] 32 (0, 0)) (by (with_reducible repeat (first | refine blk_drewN ?_ _ | refine blk_drew ?_ | refine blk_alloc ?_ _)); exact BK162.out) hb)
                      have n1_ := Aside0.mk (blk_below (g := gb163) (o := .cells #[.int .i64 a1_0, .int .i64 a1_1, .string a1_2] 32 (0, 0)) (by (with_reducible repeat (first | refine blk_drewN ?_ _ | refine blk_drew ?_ | refine blk_alloc ?_ _)); exact BK163.out) hb)
                      have n2_ := Aside0.mk (below_step (by repeat (first | (with_reducible first | exact HB.out | apply below_alloc | apply pw_below_drewN | apply below_drew1 | refine below_set ?_ GE162.out | refine below_set ?_ GE163.out) | exact HB.out)) hb)
                      clear BK162
                      clear BK163
                      clear HB
                      have BK162 := n0_
                      have BK163 := n1_
                      have HB := n2_
                      clear n0_ n1_ n2_
                      (try clear hb)
                      (try clear hb2)
                      (try clear hk)
                      (try clear hi)
                      refine hK.out _ _ ⟨(blk_cell BK162.out 0).trans rfl, (blk_cell BK162.out 1).trans rfl, (blk_cell BK162.out 2).trans rfl, (blk_cell BK163.out 0).trans rfl, (blk_cell BK163.out 1).trans rfl, (blk_cell BK163.out 2).trans rfl⟩ (fun hHeld => ?_)
                      clear hK K
                      refine norm_ (a' := ?_) ?_ ?_
                      rotate_left
                      · show Act.put _ (some 48) _ = _
                        simp only [Act.put, List.setIfInBounds_toArray, List.set_cons_zero, List.set_cons_succ, i64_w, i32_w]
                        rfl
                      refine one_ (i := 34) (N := some 51) #[true, true, true, true, true, true, true, true, true, true, true, true, true, true, true, true, true, true, true, true, true, true, true, true, true, true, true, true, true, true, true, true, true, true, true, false, false, false, false, false, false, false, false, false, false, false, false, false, false, false, false, false, false, false] rfl rfl (one_of HT_.out (by kernel_rfl)) (by decide) (fun K hK => ?_)
                      refine goes_ Tryd.func27 (by kernel_rfl) rfl #[.agg #[.int .i64 a0_0, .int .i64 a0_1, .string a0_2], .agg #[.int .i64 a1_0, .int .i64 a1_1, .string a1_2]] (by rfl) rfl rfl (by (try simp only [List.map_toArray, List.map_cons, List.map_nil]); first | done | rfl | (simp only [List.length_drop, List.length_take]; rfl)) ?_
                      with_reducible refine (selkieref10_Concat.calls a0_0 a0_1 a0_2 a1_0 a1_1 a1_2 t174 _ (HTT.out.on (by repeat (first | (with_reducible first | exact HB.out | apply below_alloc | apply pw_below_drewN | apply below_drew1 | refine below_set ?_ GE162.out | refine below_set ?_ GE163.out) | exact HB.out))) A29.out).mono ?_
                      rintro e w46 ⟨rfl, hb⟩
                      refine ⟨_, rfl, ?_⟩
                      have n0_ := Aside0.mk (blk_below (g := gb162) (o := .cells #[.int .i64 a0_0, .int .i64 a0_1, .string a0_2] 32 (0, 0)) (by (with_reducible repeat (first | refine blk_drewN ?_ _ | refine blk_drew ?_ | refine blk_alloc ?_ _)); exact BK162.out) hb)
                      have n1_ := Aside0.mk (blk_below (g := gb163) (o := .cells #[.int .i64 a1_0, .int .i64 a1_1, .string a1_2] 32 (0, 0)) (by (with_reducible repeat (first | refine blk_drewN ?_ _ | refine blk_drew ?_ | refine blk_alloc ?_ _)); exact BK163.out) hb)
                      have n2_ := Aside0.mk (below_step (by repeat (first | (with_reducible first | exact HB.out | apply below_alloc | apply pw_below_drewN | apply below_drew1 | refine below_set ?_ GE162.out | refine below_set ?_ GE163.out) | exact HB.out)) hb)
                      clear BK162
                      clear BK163
                      clear HB
                      have BK162 := n0_
                      have BK163 := n1_
                      have HB := n2_
                      clear n0_ n1_ n2_
                      (try clear hb)
                      (try clear hb2)
                      (try clear hk)
                      (try clear hi)
                      refine hK.out _ _ ⟨(blk_cell BK162.out 0).trans rfl, (blk_cell BK162.out 1).trans rfl, (blk_cell BK162.out 2).trans rfl, (blk_cell BK163.out 0).trans rfl, (blk_cell BK163.out 1).trans rfl, (blk_cell BK163.out 2).trans rfl⟩ (fun hHeld => ?_)
                      clear hK K
                      refine norm_ (a' := ?_) ?_ ?_
                      rotate_left
                      · show Act.put _ (some 51) _ = _
                        simp only [Act.put, List.setIfInBounds_toArray, List.set_cons_zero, List.set_cons_succ, i64_w, i32_w]
                        rfl
                      refine pure_ (i := 35) (N := some 52) (v := ?_) (a' := ?_) #[true, true, true, true, true, true, true, true, true, true, true, true, true, true, true, true, true, true, true, true, true, true, true, true, true, true, true, true, true, true, true, true, true, true, true, true, false, false, false, false, false, false, false, false, false, false, false, false, false, false, false, false, false, false] rfl rfl (any_of HT_.out (by kernel_rfl)) (fun _ _ _ h => h) (Or.inl ⟨by rfl, ?_⟩) ?_ ?_
                      rotate_left
                      · intro w'
                        go_simp
                        with_reducible rfl
                      rotate_left
                      · simp only [Act.put, List.setIfInBounds_toArray, List.set_cons_zero, List.set_cons_succ, i64_w, i32_w]
                        rfl
                      refine pure_ (i := 36) (N := some 53) (v := ?_) (a' := ?_) #[true, true, true, true, true, true, true, true, true, true, true, true, true, true, true, true, true, true, true, true, true, true, true, true, true, true, true, true, true, true, true, true, true, true, true, true, true, false, false, false, false, false, false, false, false, false, false, false, false, false, false, false, false, false] rfl rfl (any_of HT_.out (by kernel_rfl)) (fun _ _ _ h => h) (Or.inl ⟨by rfl, ?_⟩) ?_ ?_
                      rotate_left
                      · intro w'
                        go_simp
                        with_reducible rfl
                      rotate_left
                      · simp only [Act.put, List.setIfInBounds_toArray, List.set_cons_zero, List.set_cons_succ, i64_w, i32_w]
                        rfl
                      refine pure_ (i := 37) (N := some 54) (v := ?_) (a' := ?_) #[true, true, true, true, true, true, true, true, true, true, true, true, true, true, true, true, true, true, true, true, true, true, true, true, true, true, true, true, true, true, true, true, true, true, true, true, true, true, false, false, false, false, false, false, false, false, false, false, false, false, false, false, false, false] rfl rfl (any_of HT_.out (by kernel_rfl)) (fun _ _ _ h => h) (Or.inl ⟨by rfl, ?_⟩) ?_ ?_
                      rotate_left
                      · intro w'
                        go_simp
                        with_reducible rfl
                      rotate_left
                      · simp only [Act.put, List.setIfInBounds_toArray, List.set_cons_zero, List.set_cons_succ, i64_w, i32_w]
                        rfl
                      refine take_ (i := 38) (N := some 55) (v := ?_) (a' := ?_) #[true, true, true, true, true, true, true, true, true, true, true, true, true, true, true, true, true, true, true, true, true, true, true, true, true, true, true, true, true, true, true, true, true, true, true, true, true, true, true, false, false, false, false, false, false, false, false, false, false, false, false, false, false, false] rfl rfl (take_ofW HT_.out HW_.out (by kernel_rfl)) (fun _ _ _ h => h) (Or.inl ⟨by rfl, ?_⟩) hHeld ?_ ?_
                      rotate_left
                      · rintro w' ⟨s0, s1, s2, s3, s4, s5⟩
                        go_simp
                        with_reducible rfl
                      rotate_left
                      · simp only [Act.put, List.setIfInBounds_toArray, List.set_cons_zero, List.set_cons_succ, i64_w, i32_w]
                        rfl
                      refine take_ (i := 39) (N := some 56) (v := ?_) (a' := ?_) #[true, true, true, true, true, true, true, true, true, true, true, true, true, true, true, true, true, true, true, true, true, true, true, true, true, true, true, true, true, true, true, true, true, true, true, true, true, true, true, true, false, false, false, false, false, false, false, false, false, false, false, false, false, false] rfl rfl (take_ofW HT_.out HW_.out (by kernel_rfl)) (fun _ _ _ h => h) (Or.inl ⟨by rfl, ?_⟩) hHeld ?_ ?_
                      rotate_left
                      · rintro w' ⟨s0, s1, s2, s3, s4, s5⟩
                        go_simp
                        with_reducible rfl
                      rotate_left
                      · simp only [Act.put, List.setIfInBounds_toArray, List.set_cons_zero, List.set_cons_succ, i64_w, i32_w]
                        rfl
                      refine take_ (i := 41) (N := some 58) (v := ?_) (a' := ?_) #[true, true, true, true, true, true, true, true, true, true, true, true, true, true, true, true, true, true, true, true, true, true, true, true, true, true, true, true, true, true, true, true, true, true, true, true, true, true, true, true, false, true, false, false, false, false, false, false, false, false, false, false, false, false] rfl rfl (take_ofW HT_.out HW_.out (by kernel_rfl)) (fun _ _ _ h => h) (Or.inl ⟨by rfl, ?_⟩) hHeld ?_ ?_
                      rotate_left
                      · rintro w' ⟨s0, s1, s2, s3, s4, s5⟩
                        go_simp
                        with_reducible rfl
                      rotate_left
                      · simp only [Act.put, List.setIfInBounds_toArray, List.set_cons_zero, List.set_cons_succ, i64_w, i32_w]
                        rfl
                      refine take_ (i := 42) (N := some 59) (v := ?_) (a' := ?_) #[true, true, true, true, true, true, true, true, true, true, true, true, true, true, true, true, true, true, true, true, true, true, true, true, true, true, true, true, true, true, true, true, true, true, true, true, true, true, true, true, false, true, true, false, false, false, false, false, false, false, false, false, false, false] rfl rfl (take_ofW HT_.out HW_.out (by kernel_rfl)) (fun _ _ _ h => h) (Or.inl ⟨by rfl, ?_⟩) hHeld ?_ ?_
                      rotate_left
                      · rintro w' ⟨s0, s1, s2, s3, s4, s5⟩
                        go_simp
                        with_reducible rfl
                      rotate_left
                      · simp only [Act.put, List.setIfInBounds_toArray, List.set_cons_zero, List.set_cons_succ, i64_w, i32_w]
                        rfl
                      refine one_ (i := 40) (N := some 57) #[true, true, true, true, true, true, true, true, true, true, true, true, true, true, true, true, true, true, true, true, true, true, true, true, true, true, true, true, true, true, true, true, true, true, true, true, true, true, true, true, true, true, true, false, false, false, false, false, false, false, false, false, false, false] rfl rfl (one_of HT_.out (by kernel_rfl)) (by decide) (fun K hK => ?_)
                      refine goes_ Tryd.func28 (by kernel_rfl) rfl #[.agg #[.int .i64 a0_0, .int .i64 a0_1, .string a0_2], .agg #[.int .i64 a1_0, .int .i64 a1_1, .string a1_2]] (by rfl) rfl rfl (by (try simp only [List.map_toArray, List.map_cons, List.map_nil]); first | done | rfl | (simp only [List.length_drop, List.length_take]; rfl)) ?_
                      with_reducible refine (words_Compare.calls a0_0 a0_1 a0_2 a1_0 a1_1 a1_2 t175 _ A31.out).mono ?_
                      rintro e w47 ⟨rfl, hb⟩
                      refine ⟨_, rfl, ?_⟩
                      have n0_ := Aside0.mk (blk_below (g := gb162) (o := .cells #[.int .i64 a0_0, .int .i64 a0_1, .string a0_2] 32 (0, 0)) (by (with_reducible repeat (first | refine blk_drewN ?_ _ | refine blk_drew ?_ | refine blk_alloc ?_ _)); exact BK162.out) hb)
                      have n1_ := Aside0.mk (blk_below (g := gb163) (o := .cells #[.int .i64 a1_0, .int .i64 a1_1, .string a1_2] 32 (0, 0)) (by (with_reducible repeat (first | refine blk_drewN ?_ _ | refine blk_drew ?_ | refine blk_alloc ?_ _)); exact BK163.out) hb)
                      have n2_ := Aside0.mk (below_step (by repeat (first | (with_reducible first | exact HB.out | apply below_alloc | apply pw_below_drewN | apply below_drew1 | refine below_set ?_ GE162.out | refine below_set ?_ GE163.out) | exact HB.out)) hb)
                      clear BK162
                      clear BK163
                      clear HB
                      have BK162 := n0_
                      have BK163 := n1_
                      have HB := n2_
                      clear n0_ n1_ n2_
                      (try clear hb)
                      (try clear hb2)
                      (try clear hk)
                      (try clear hi)
                      refine hK.out _ _ ⟨(blk_cell BK162.out 0).trans rfl, (blk_cell BK162.out 1).trans rfl, (blk_cell BK162.out 2).trans rfl, (blk_cell BK163.out 0).trans rfl, (blk_cell BK163.out 1).trans rfl, (blk_cell BK163.out 2).trans rfl⟩ (fun hHeld => ?_)
                      clear hK K
                      refine norm_ (a' := ?_) ?_ ?_
                      rotate_left
                      · show Act.put _ (some 57) _ = _
                        simp only [Act.put, List.setIfInBounds_toArray, List.set_cons_zero, List.set_cons_succ, i64_w, i32_w]
                        rfl
                      refine one_ (i := 43) (N := some 60) #[true, true, true, true, true, true, true, true, true, true, true, true, true, true, true, true, true, true, true, true, true, true, true, true, true, true, true, true, true, true, true, true, true, true, true, true, true, true, true, true, true, true, true, true, false, false, false, false, false, false, false, false, false, false] rfl rfl (one_of HT_.out (by kernel_rfl)) (by decide) (fun K hK => ?_)
                      refine goes_ Tryd.func29 (by kernel_rfl) rfl #[.agg #[.int .i64 a0_0, .int .i64 a0_1, .string a0_2], .agg #[.int .i64 a1_0, .int .i64 a1_1, .string a1_2]] (by rfl) rfl rfl (by (try simp only [List.map_toArray, List.map_cons, List.map_nil]); first | done | rfl | (simp only [List.length_drop, List.length_take]; rfl)) ?_
                      with_reducible refine (selkieref10_Compare.calls a0_0 a0_1 a0_2 a1_0 a1_1 a1_2 t176 _ A32.out).mono ?_
                      rintro e w48 ⟨rfl, hb⟩
                      refine ⟨_, rfl, ?_⟩
                      have n0_ := Aside0.mk (blk_below (g := gb162) (o := .cells #[.int .i64 a0_0, .int .i64 a0_1, .string a0_2] 32 (0, 0)) (by (with_reducible repeat (first | refine blk_drewN ?_ _ | refine blk_drew ?_ | refine blk_alloc ?_ _)); exact BK162.out) hb)
                      have n1_ := Aside0.mk (blk_below (g := gb163) (o := .cells #[.int .i64 a1_0, .int .i64 a1_1, .string a1_2] 32 (0, 0)) (by (with_reducible repeat (first | refine blk_drewN ?_ _ | refine blk_drew ?_ | refine blk_alloc ?_ _)); exact BK163.out) hb)
                      have n2_ := Aside0.mk (below_step (by repeat (first | (with_reducible first | exact HB.out | apply below_alloc | apply pw_below_drewN | apply below_drew1 | refine below_set ?_ GE162.out | refine below_set ?_ GE163.out) | exact HB.out)) hb)
                      clear BK162
                      clear BK163
                      clear HB
                      have BK162 := n0_
                      have BK163 := n1_
                      have HB := n2_
                      clear n0_ n1_ n2_
                      (try clear hb)
                      (try clear hb2)
                      (try clear hk)
                      (try clear hi)
                      refine hK.out _ _ ⟨(blk_cell BK162.out 0).trans rfl, (blk_cell BK162.out 1).trans rfl, (blk_cell BK162.out 2).trans rfl, (blk_cell BK163.out 0).trans rfl, (blk_cell BK163.out 1).trans rfl, (blk_cell BK163.out 2).trans rfl⟩ (fun hHeld => ?_)
                      clear hK K
                      refine norm_ (a' := ?_) ?_ ?_
                      rotate_left
                      · show Act.put _ (some 60) _ = _
                        simp only [Act.put, List.setIfInBounds_toArray, List.set_cons_zero, List.set_cons_succ, i64_w, i32_w]
                        rfl
                      refine pure_ (i := 44) (N := some 61) (v := ?_) (a' := ?_) #[true, true, true, true, true, true, true, true, true, true, true, true, true, true, true, true, true, true, true, true, true, true, true, true, true, true, true, true, true, true, true, true, true, true, true, true, true, true, true, true, true, true, true, true, true, false, false, false, false, false, false, false, false, false] rfl rfl (any_of HT_.out (by kernel_rfl)) (fun _ _ _ h => h) (Or.inl ⟨by rfl, ?_⟩) ?_ ?_
                      rotate_left
                      · intro w'
                        go_simp
                        with_reducible rfl
                      rotate_left
                      · simp only [Act.put, List.setIfInBounds_toArray, List.set_cons_zero, List.set_cons_succ, i64_w, i32_w]
                        rfl
                      refine pure_ (i := 45) (N := some 62) (v := ?_) (a' := ?_) #[true, true, true, true, true, true, true, true, true, true, true, true, true, true, true, true, true, true, true, true, true, true, true, true, true, true, true, true, true, true, true, true, true, true, true, true, true, true, true, true, true, true, true, true, true, true, false, false, false, false, false, false, false, false] rfl rfl (any_of HT_.out (by kernel_rfl)) (fun _ _ _ h => h) (Or.inl ⟨by rfl, ?_⟩) ?_ ?_
                      rotate_left
                      · intro w'
                        go_simp
                        with_reducible rfl
                      rotate_left
                      · simp only [Act.put, List.setIfInBounds_toArray, List.set_cons_zero, List.set_cons_succ, i64_w, i32_w]
                        rfl
                      refine pure_ (i := 46) (N := some 63) (v := ?_) (a' := ?_) #[true, true, true, true, true, true, true, true, true, true, true, true, true, true, true, true, true, true, true, true, true, true, true, true, true, true, true, true, true, true, true, true, true, true, true, true, true, true, true, true, true, true, true, true, true, true, true, false, false, false, false, false, false, false] rfl rfl (any_of HT_.out (by kernel_rfl)) (fun _ _ _ h => h) (Or.inl ⟨by rfl, ?_⟩) ?_ ?_
                      rotate_left
                      · intro w'
                        go_simp
                        with_reducible rfl
                      rotate_left
                      · simp only [Act.put, List.setIfInBounds_toArray, List.set_cons_zero, List.set_cons_succ, i64_w, i32_w]
                        rfl
                      refine take_ (i := 47) (N := some 64) (v := ?_) (a' := ?_) #[true, true, true, true, true, true, true, true, true, true, true, true, true, true, true, true, true, true, true, true, true, true, true, true, true, true, true, true, true, true, true, true, true, true, true, true, true, true, true, true, true, true, true, true, true, true, true, true, false, false, false, false, false, false] rfl rfl (take_ofW HT_.out HW_.out (by kernel_rfl)) (fun _ _ _ h => h) (Or.inl ⟨by rfl, ?_⟩) hHeld ?_ ?_
                      rotate_left
                      · rintro w' ⟨s0, s1, s2, s3, s4, s5⟩
                        go_simp
                        with_reducible rfl
                      rotate_left
                      · simp only [Act.put, List.setIfInBounds_toArray, List.set_cons_zero, List.set_cons_succ, i64_w, i32_w]
                        rfl
                      refine take_ (i := 49) (N := some 66) (v := ?_) (a' := ?_) #[true, true, true, true, true, true, true, true, true, true, true, true, true, true, true, true, true, true, true, true, true, true, true, true, true, true, true, true, true, true, true, true, true, true, true, true, true, true, true, true, true, true, true, true, true, true, true, true, false, true, false, false, false, false] rfl rfl (take_ofW HT_.out HW_.out (by kernel_rfl)) (fun _ _ _ h => h) (Or.inl ⟨by rfl, ?_⟩) hHeld ?_ ?_
                      rotate_left
                      · rintro w' ⟨s0, s1, s2, s3, s4, s5⟩
                        go_simp
                        with_reducible rfl
                      rotate_left
                      · simp only [Act.put, List.setIfInBounds_toArray, List.set_cons_zero, List.set_cons_succ, i64_w, i32_w]
                        rfl
                      refine one_ (i := 48) (N := some 65) #[true, true, true, true, true, true, true, true, true, true, true, true, true, true, true, true, true, true, true, true, true, true, true, true, true, true, true, true, true, true, true, true, true, true, true, true, true, true, true, true, true, true, true, true, true, true, true, true, true, true, false, false, false, false] rfl rfl (one_of HT_.out (by kernel_rfl)) (by decide) (fun K hK => ?_)
                      refine goes_ Tryd.func30 (by kernel_rfl) rfl #[.agg #[.int .i64 a0_0, .int .i64 a0_1, .string a0_2]] (by rfl) rfl rfl (by (try simp only [List.map_toArray, List.map_cons, List.map_nil]); first | done | rfl | (simp only [List.length_drop, List.length_take]; rfl)) ?_
                      with_reducible refine (words_Error.calls a0_0 a0_1 a0_2 t177 _ (HTT.out.on (by repeat (first | (with_reducible first | exact HB.out | apply below_alloc | apply pw_below_drewN | apply below_drew1 | refine below_set ?_ GE162.out | refine below_set ?_ GE163.out) | exact HB.out))) A34.out).mono ?_
                      rintro e w49 ⟨rfl, hb⟩
                      refine ⟨_, rfl, ?_⟩
                      have n0_ := Aside0.mk (blk_below (g := gb162) (o := .cells #[.int .i64 a0_0, .int .i64 a0_1, .string a0_2] 32 (0, 0)) (by (with_reducible repeat (first | refine blk_drewN ?_ _ | refine blk_drew ?_ | refine blk_alloc ?_ _)); exact BK162.out) hb)
                      have n1_ := Aside0.mk (blk_below (g := gb163) (o := .cells #[.int .i64 a1_0, .int .i64 a1_1, .string a1_2] 32 (0, 0)) (by (with_reducible repeat (first | refine blk_drewN ?_ _ | refine blk_drew ?_ | refine blk_alloc ?_ _)); exact BK163.out) hb)
                      have n2_ := Aside0.mk (below_step (by repeat (first | (with_reducible first | exact HB.out | apply below_alloc | apply pw_below_drewN | apply below_drew1 | refine below_set ?_ GE162.out | refine below_set ?_ GE163.out) | exact HB.out)) hb)
                      clear BK162
                      clear BK163
                      clear HB
                      have BK162 := n0_
                      have BK163 := n1_
                      have HB := n2_
                      clear n0_ n1_ n2_
                      (try clear hb)
                      (try clear hb2)
                      (try clear hk)
                      (try clear hi)
                      refine hK.out _ _ ⟨(blk_cell BK162.out 0).trans rfl, (blk_cell BK162.out 1).trans rfl, (blk_cell BK162.out 2).trans rfl, (blk_cell BK163.out 0).trans rfl, (blk_cell BK163.out 1).trans rfl, (blk_cell BK163.out 2).trans rfl⟩ (fun hHeld => ?_)
                      clear hK K
                      refine norm_ (a' := ?_) ?_ ?_
                      rotate_left
                      · show Act.put _ (some 65) _ = _
                        simp only [Act.put, List.setIfInBounds_toArray, List.set_cons_zero, List.set_cons_succ, i64_w, i32_w]
                        rfl
                      refine one_ (i := 50) (N := some 67) #[true, true, true, true, true, true, true, true, true, true, true, true, true, true, true, true, true, true, true, true, true, true, true, true, true, true, true, true, true, true, true, true, true, true, true, true, true, true, true, true, true, true, true, true, true, true, true, true, true, true, true, false, false, false] rfl rfl (one_of HT_.out (by kernel_rfl)) (by decide) (fun K hK => ?_)
                      refine goes_ Tryd.func31 (by kernel_rfl) rfl #[.agg #[.int .i64 a0_0, .int .i64 a0_1, .string a0_2]] (by rfl) rfl rfl (by (try simp only [List.map_toArray, List.map_cons, List.map_nil]); first | done | rfl | (simp only [List.length_drop, List.length_take]; rfl)) ?_
                      with_reducible refine (selkieref10_Error.calls a0_0 a0_1 a0_2 t178 _ (HTT.out.on (by repeat (first | (with_reducible first | exact HB.out | apply below_alloc | apply pw_below_drewN | apply below_drew1 | refine below_set ?_ GE162.out | refine below_set ?_ GE163.out) | exact HB.out))) A35.out).mono ?_
                      rintro e w50 ⟨rfl, hb⟩
                      refine ⟨_, rfl, ?_⟩
                      have n0_ := Aside0.mk (blk_below (g := gb162) (o := .cells #[.int .i64 a0_0, .int .i64 a0_1, .string a0_2] 32 (0, 0)) (by (with_reducible repeat (first | refine blk_drewN ?_ _ | refine blk_drew ?_ | refine blk_alloc ?_ _)); exact BK162.out) hb)
                      have n1_ := Aside0.mk (blk_below (g := gb163) (o := .cells #[.int .i64 a1_0, .int .i64 a1_1, .string a1_2] 32 (0, 0)) (by (with_reducible repeat (first | refine blk_drewN ?_ _ | refine blk_drew ?_ | refine blk_alloc ?_ _)); exact BK163.out) hb)
                      have n2_ := Aside0.mk (below_step (by repeat (first | (with_reducible first | exact HB.out | apply below_alloc | apply pw_below_drewN | apply below_drew1 | refine below_set ?_ GE162.out | refine below_set ?_ GE163.out) | exact HB.out)) hb)
                      clear BK162
                      clear BK163
                      clear HB
                      have BK162 := n0_
                      have BK163 := n1_
                      have HB := n2_
                      clear n0_ n1_ n2_
                      (try clear hb)
                      (try clear hb2)
                      (try clear hk)
                      (try clear hi)
                      refine hK.out _ _ ⟨(blk_cell BK162.out 0).trans rfl, (blk_cell BK162.out 1).trans rfl, (blk_cell BK162.out 2).trans rfl, (blk_cell BK163.out 0).trans rfl, (blk_cell BK163.out 1).trans rfl, (blk_cell BK163.out 2).trans rfl⟩ (fun hHeld => ?_)
                      clear hK K
                      refine norm_ (a' := ?_) ?_ ?_
                      rotate_left
                      · show Act.put _ (some 67) _ = _
                        simp only [Act.put, List.setIfInBounds_toArray, List.set_cons_zero, List.set_cons_succ, i64_w, i32_w]
                        rfl
                      refine pure_ (i := 51) (N := some 68) (v := ?_) (a' := ?_) #[true, true, true, true, true, true, true, true, true, true, true, true, true, true, true, true, true, true, true, true, true, true, true, true, true, true, true, true, true, true, true, true, true, true, true, true, true, true, true, true, true, true, true, true, true, true, true, true, true, true, true, true, false, false] rfl rfl (any_of HT_.out (by kernel_rfl)) (fun _ _ _ h => h) (Or.inl ⟨by rfl, ?_⟩) ?_ ?_
                      rotate_left
                      · intro w'
                        go_simp
                        with_reducible rfl
                      rotate_left
                      · simp only [Act.put, List.setIfInBounds_toArray, List.set_cons_zero, List.set_cons_succ, i64_w, i32_w]
                        rfl
                      refine pure_ (i := 52) (N := some 69) (v := ?_) (a' := ?_) #[true, true, true, true, true, true, true, true, true, true, true, true, true, true, true, true, true, true, true, true, true, true, true, true, true, true, true, true, true, true, true, true, true, true, true, true, true, true, true, true, true, true, true, true, true, true, true, true, true, true, true, true, true, false] rfl rfl (any_of HT_.out (by kernel_rfl)) (fun _ _ _ h => h) (Or.inl ⟨by rfl, ?_⟩) ?_ ?_
                      rotate_left
                      · intro w'
                        go_simp
                        with_reducible rfl
                      rotate_left
                      · simp only [Act.put, List.setIfInBounds_toArray, List.set_cons_zero, List.set_cons_succ, i64_w, i32_w]
                        rfl
                      refine pure_ (i := 53) (N := some 4) (v := ?_) (a' := ?_) #[true, true, true, true, true, true, true, true, true, true, true, true, true, true, true, true, true, true, true, true, true, true, true, true, true, true, true, true, true, true, true, true, true, true, true, true, true, true, true, true, true, true, true, true, true, true, true, true, true, true, true, true, true, true] rfl rfl (any_of HT_.out (by kernel_rfl)) (fun _ _ _ h => h) (Or.inl ⟨by rfl, ?_⟩) ?_ ?_
                      rotate_left
                      · intro w'
                        go_simp
                        with_reducible rfl
                      rotate_left
                      · simp only [Act.put, List.setIfInBounds_toArray, List.set_cons_zero, List.set_cons_succ, i64_w, i32_w]
                        rfl
                      refine done_ (done_of HT_.out (by kernel_rfl)) ?_
                      try go_wp2
                      go_ret
                      exact ⟨by first | rfl | (simp [errW_none, errW_some] <;> rfl) | (simp [*, errW_none, errW_some] <;> rfl), by repeat (first | (with_reducible first | exact HB.out | apply below_alloc | apply pw_below_drewN | apply below_drew1 | refine below_set ?_ GE162.out | refine below_set ?_ GE163.out) | exact HB.out)⟩
                    · rw [if_neg c33] at H
                      have c33b0 : (t175.toList == t176.toList) = false := beq_eq_false_iff_ne.mpr c33
                      have c33b1 : (t175.toList != t176.toList) = true := bne_iff_ne.mpr c33
                      exact absurd (Option.some.inj H) (by rw [HR.out]; decide)
                  · rw [if_neg c30] at H
                    have c30b0 : (t173.toList == t174.toList) = false := beq_eq_false_iff_ne.mpr c30
                    have c30b1 : (t173.toList != t174.toList) = true := bne_iff_ne.mpr c30
                    exact absurd (Option.some.inj H) (by rw [HR.out]; decide)
                · rw [if_neg c27] at H
                  have c27b0 : (t171.toList == t172.toList) = false := beq_eq_false_iff_ne.mpr c27
                  have c27b1 : (t171.toList != t172.toList) = true := bne_iff_ne.mpr c27
                  exact absurd (Option.some.inj H) (by rw [HR.out]; decide)
              · rw [if_neg c24] at H
                have c24b0 : (t169.toList == t170.toList) = false := beq_eq_false_iff_ne.mpr c24
                have c24b1 : (t169.toList != t170.toList) = true := bne_iff_ne.mpr c24
                exact absurd (Option.some.inj H) (by rw [HR.out]; decide)
            · rw [if_neg c21] at H
              have c21b0 : (t167.toList == t168.toList) = false := beq_eq_false_iff_ne.mpr c21
              have c21b1 : (t167.toList != t168.toList) = true := bne_iff_ne.mpr c21
              exact absurd (Option.some.inj H) (by rw [HR.out]; decide)
          · rw [if_neg c18] at H
            have c18b0 : (t165.toList == t166.toList) = false := beq_eq_false_iff_ne.mpr c18
            have c18b1 : (t165.toList != t166.toList) = true := bne_iff_ne.mpr c18
            exact absurd (Option.some.inj H) (by rw [HR.out]; decide)
  · replace c4 := Bool.eq_false_iff.mpr c4
    subst c4
    have H1 : (some false) = some r := by rw [if_neg (show ¬ (false = true) by decide)] at H; exact H
    clear H
    have H := H1
    clear H1
    exact absurd (Option.some.inj H) (by rw [HR.out]; decide)

end Go.Proofs.YtpgpmldaggpciaaDoor.PWo
