-- printed by a call of the kit's print.py over several functions of this seat (wip/pr.sh)
import Derived.Test.YtpgpmldaggpciaaDoorPDox0
import Derived.Test.YtpgpmldaggpciaaDoorPDox2
namespace Go.Proofs.YtpgpmldaggpciaaDoor.PDo
open Go.RowKit Go.Proofs.YtpgpmldaggpciaaDoorW.PrintWords Go.Proofs.YtpgpmldaggpciaaDoorW.PrintLast Go.Proofs.YtpgpmldaggpciaaDoorW.PrintMore
attribute [local go_sem] max2_int min2_int max_two min_two max_three min_three max_four min_four   -- for this text's walks alone
set_option linter.unusedVariables false
set_option linter.unusedSimpArgs false

/-! ### oper_Do: function 46 -/
mutual
def oper_Do.j0 : Nat → Int → Int → Bool → Int → Int → ByteArray → Int → Int → ByteArray → Option (Int × Int × ByteArray × Int)
  | 0, _, _, _, _, _, _, _, _, _ => none
  | k + 1, x3, x10, x12, x132000, x132001, x132002, x133000, x133001, x133002 => if x10 = 11 then ((oper_join.f k x132000 x132001 x132002 x133000 x133001 x133002 x3).bind fun bt137 => (some (bt137.1, bt137.2.1, bt137.2.2.1, bt137.2.2.2))) else (if x10 = 12 then ((value_Raw.f x132000 x132001 x132002 x133000 x133001 x133002).bind fun t151 => ((value_OfBool.f (t151 != x12)).bind fun bt152 => (some (bt152.1, bt152.2.1, bt152.2.2, 0)))) else (if x10 = 15 then ((value_Less.f x133000 x133001 x133002 x132000 x132001 x132002).bind fun bt141 => (if bt141.2 = true then ((value_OfBool.f (!bt141.1)).bind fun bt143 => (some (bt143.1, bt143.2.1, bt143.2.2, 0))) else (some (0, 0, (⟨#[]⟩ : ByteArray), 18)))) else (if x10 = 14 then ((value_Less.f x132000 x132001 x132002 x133000 x133001 x133002).bind fun bt146 => (if bt146.2 = true then ((value_OfBool.f (bt146.1 != x12)).bind fun bt148 => (some (bt148.1, bt148.2.1, bt148.2.2, 0))) else (some (0, 0, (⟨#[]⟩ : ByteArray), 18)))) else (if x10 < 1 then (oper_Do.j1 k x10 true x132000 x132001 x132002 x133000 x133001 x133002) else (oper_Do.j1 k x10 (decide (x10 > 10)) x132000 x132001 x132002 x133000 x133001 x133002)))))
def oper_Do.j1 : Nat → Int → Bool → Int → Int → ByteArray → Int → Int → ByteArray → Option (Int × Int × ByteArray × Int)
  | 0, _, _, _, _, _, _, _, _ => none
  | k + 1, x10, x60, x132000, x132001, x132002, x133000, x133001, x133002 => if x60 = true then (some (0, 0, (⟨#[]⟩ : ByteArray), 1)) else ((oper_arith.f x10 x132000 x132001 x132002 x133000 x133001 x133002).bind fun bt155 => (some (bt155.1, bt155.2.1, bt155.2.2.1, bt155.2.2.2)))
end
def oper_Do.f (k : Nat) (a0 : Int) (a1_0 : Int) (a1_1 : Int) (a1_2 : ByteArray) (a2_0 : Int) (a2_1 : Int) (a2_2 : ByteArray) (a3 : Int) : Option (Int × Int × ByteArray × Int) := (oper_Swap.f a0).bind fun bt134 => (if bt134.2.1 = true then (oper_Do.j0 k a3 bt134.1 bt134.2.2 a2_0 a2_1 a2_2 a1_0 a1_1 a1_2) else (oper_Do.j0 k a3 bt134.1 bt134.2.2 a1_0 a1_1 a1_2 a2_0 a2_1 a2_2))
theorem oper_Do.mono_l : ∀ k, (∀ y0 y1 y2 y3 y4 y5 y6 y7 y8, LeO (oper_Do.j0 k y0 y1 y2 y3 y4 y5 y6 y7 y8) (oper_Do.j0 (k + 1) y0 y1 y2 y3 y4 y5 y6 y7 y8)) ∧ (∀ y0 y1 y2 y3 y4 y5 y6 y7, LeO (oper_Do.j1 k y0 y1 y2 y3 y4 y5 y6 y7) (oper_Do.j1 (k + 1) y0 y1 y2 y3 y4 y5 y6 y7))
  | 0 => ⟨fun _ _ _ _ _ _ _ _ _ r h => by simp [oper_Do.j0] at h, fun _ _ _ _ _ _ _ _ r h => by simp [oper_Do.j1] at h⟩
  | k + 1 => by
    obtain ⟨ih0, ih1⟩ := oper_Do.mono_l k
    refine ⟨?_, ?_⟩
    · intro y0 y1 y2 y3 y4 y5 y6 y7 y8
      unfold oper_Do.j0
      repeat' first
      | (with_reducible exact ih0 _ _ _ _ _ _ _ _ _)
      | (with_reducible exact ih1 _ _ _ _ _ _ _ _)
      | (with_reducible exact oper_join.mono _ _ _ _ _ _ _ _)
      | (with_reducible exact LeO.refl _)
      | (with_reducible exact LeO.none _)
      | (with_reducible refine LeO.ite ?_ ?_)
      | (with_reducible refine LeO.bind ?_ (fun _ => ?_))
      | exact ih0 _ _ _ _ _ _ _ _ _
      | exact ih1 _ _ _ _ _ _ _ _
      | exact oper_join.mono _ _ _ _ _ _ _ _
      | exact LeO.none _
      | refine LeO.ite ?_ ?_
      | refine LeO.bind ?_ (fun _ => ?_)
    · intro y0 y1 y2 y3 y4 y5 y6 y7
      unfold oper_Do.j1
      repeat' first
      | (with_reducible exact ih0 _ _ _ _ _ _ _ _ _)
      | (with_reducible exact ih1 _ _ _ _ _ _ _ _)
      | (with_reducible exact oper_join.mono _ _ _ _ _ _ _ _)
      | (with_reducible exact LeO.refl _)
      | (with_reducible exact LeO.none _)
      | (with_reducible refine LeO.ite ?_ ?_)
      | (with_reducible refine LeO.bind ?_ (fun _ => ?_))
      | exact ih0 _ _ _ _ _ _ _ _ _
      | exact ih1 _ _ _ _ _ _ _ _
      | exact oper_join.mono _ _ _ _ _ _ _ _
      | exact LeO.none _
      | refine LeO.ite ?_ ?_
      | refine LeO.bind ?_ (fun _ => ?_)
theorem oper_Do.mono : ∀ a0 a1 a2 a3 a4 a5 a6 a7 k, LeO (oper_Do.f k a0 a1 a2 a3 a4 a5 a6 a7) (oper_Do.f (k + 1) a0 a1 a2 a3 a4 a5 a6 a7) := by
  intro a0 a1 a2 a3 a4 a5 a6 a7 k
  obtain ⟨ih0, ih1⟩ := oper_Do.mono_l k
  unfold oper_Do.f
  repeat' first
      | (with_reducible exact ih0 _ _ _ _ _ _ _ _ _)
      | (with_reducible exact ih1 _ _ _ _ _ _ _ _)
      | (with_reducible exact oper_join.mono _ _ _ _ _ _ _ _)
      | (with_reducible exact LeO.refl _)
      | (with_reducible exact LeO.none _)
      | (with_reducible refine LeO.ite ?_ ?_)
      | (with_reducible refine LeO.bind ?_ (fun _ => ?_))
      | exact ih0 _ _ _ _ _ _ _ _ _
      | exact ih1 _ _ _ _ _ _ _ _
      | exact oper_join.mono _ _ _ _ _ _ _ _
      | exact LeO.none _
      | refine LeO.ite ?_ ?_
      | refine LeO.bind ?_ (fun _ => ?_)
set_option maxHeartbeats 8000000 in
set_option maxRecDepth 100000 in
theorem oper_Do.calls (k : Nat) (a0 : Int) (a1_0 : Int) (a1_1 : Int) (a1_2 : ByteArray) (a2_0 : Int) (a2_1 : Int) (a2_2 : ByteArray) (a3 : Int) (r1 : Int) (r2 : Int) (r3 : ByteArray) (r4 : Int) (w : World) (hT : Go.Proofs.YtpgpmldaggpciaaDoor.TabW.Tab w) (h : oper_Do.f k a0 a1_0 a1_1 a1_2 a2_0 a2_1 a2_2 a3 = some (r1, r2, r3, r4)) :
    Calls Tryd.prog 46 #[.int .i64 a0, .agg #[.int .i64 a1_0, .int .i64 a1_1, .string a1_2], .agg #[.int .i64 a2_0, .int .i64 a2_1, .string a2_2], .int .i64 a3] w fun e w' => e = .returned (.tuple #[.agg #[.int .i64 r1, .int .i64 r2, .string r3], .int .i64 r4]) ∧ Below w.heap.size w w' := by
  have hu32 := Tryd.underlying32
  have HB := Aside0.mk (Below.refl w.heap.size w)
  have HTT := Aside0.mk hT
  clear hT
  have H : ((oper_Swap.f a0).bind fun bt134 => (if bt134.2.1 = true then (oper_Do.j0 k a3 bt134.1 bt134.2.2 a2_0 a2_1 a2_2 a1_0 a1_1 a1_2) else (oper_Do.j0 k a3 bt134.1 bt134.2.2 a1_0 a1_1 a1_2 a2_0 a2_1 a2_2))) = some (r1, r2, r3, r4) := h
  clear h
  replace H := Option.bind_eq_some_iff.mp H
  obtain ⟨⟨t134, t135, t136⟩, A50, H⟩ := H
  replace H : (if t135 = true then (oper_Do.j0 k a3 t134 t136 a2_0 a2_1 a2_2 a1_0 a1_1 a1_2) else (oper_Do.j0 k a3 t134 t136 a1_0 a1_1 a1_2 a2_0 a2_1 a2_2)) = some (r1, r2, r3, r4) := H
  have A5 := Aside0.mk A50
  clear A50
  have HC6 := Aside0.mk H
  clear H
  go_enter Tryd.func46, Tryd.ntmps46
  go_upto_if 22 with (first | ((with_reducible refine gate_dst (N := 5) rfl ?_); refine box_event ?hg (N := 5) ?hd (cs := #[.int .i64 a1_0, .int .i64 a1_1, .string a1_2]) (t := 32) ?hr ?_; (case hd => rfl); (case hg => rfl); (case hr => first | (go_simp; done) | (go_simp; rfl)); intro gb131 hg w7 hbox hb; have n0_ := Aside0.mk (below_step (by repeat (first | (with_reducible first | exact HB.out | apply below_alloc | apply pw_below_drewN | apply below_drew1) | exact HB.out)) hb); have n1_ := Aside0.mk (hbox); have n2_ := Aside0.mk ((by rw [hg]; exact (below_size (by repeat (first | (with_reducible first | exact HB.out | apply below_alloc | apply pw_below_drewN | apply below_drew1) | exact HB.out))) : w.heap.size ≤ gb131)); have n3_ := Aside0.mk ((by rw [hg]; exact (below_size (by repeat (first | (with_reducible first | exact HB.out | apply below_alloc | apply pw_below_drewN | apply below_drew1) | exact HB.out))) : w.heap.size ≤ gb131)); clear HB; have HB := n0_; have BK131 := n1_; have GW131 := n2_; have GE131 := n3_; clear n0_ n1_ n2_ n3_; clear hb hbox hg) | ((with_reducible refine gate_dst (N := 6) rfl ?_); refine box_event ?hg (N := 6) ?hd (cs := #[.int .i64 a2_0, .int .i64 a2_1, .string a2_2]) (t := 32) ?hr ?_; (case hd => rfl); (case hg => rfl); (case hr => first | (go_simp; done) | (go_simp; rfl)); intro gb132 hg w8 hbox hb; have n0_ := Aside0.mk (blk_below (g := gb131) (o := .cells #[.int .i64 a1_0, .int .i64 a1_1, .string a1_2] 32 (0, 0)) (by (with_reducible repeat (first | refine blk_drewN ?_ _ | refine blk_drew ?_ | refine blk_alloc ?_ _)); exact BK131.out) hb); have n1_ := Aside0.mk (below_step (by repeat (first | (with_reducible first | exact HB.out | apply below_alloc | apply pw_below_drewN | apply below_drew1 | refine below_set ?_ GE131.out) | exact HB.out)) hb); have n2_ := Aside0.mk (hbox); have n3_ := Aside0.mk ((by rw [hg]; exact (below_size (by repeat (first | (with_reducible first | exact HB.out | apply below_alloc | apply pw_below_drewN | apply below_drew1 | refine below_set ?_ GE131.out) | exact HB.out))) : w.heap.size ≤ gb132)); have n4_ := Aside0.mk ((by rw [hg]; exact (below_size (by repeat (first | (with_reducible first | exact HB.out | apply below_alloc | apply pw_below_drewN | apply below_drew1 | refine below_set ?_ GE131.out) | exact HB.out))) : w.heap.size ≤ gb132)); have n5_ := Aside0.mk ((by rw [hg]; exact Nat.ne_of_lt (blk_lt (g := gb131) (o := .cells #[.int .i64 a1_0, .int .i64 a1_1, .string a1_2] 32 (0, 0)) (by (with_reducible repeat (first | refine blk_drewN ?_ _ | refine blk_drew ?_ | refine blk_alloc ?_ _)); exact BK131.out)) : gb131 ≠ gb132)); have n6_ := Aside0.mk ((by rw [hg]; exact Nat.ne_of_gt (blk_lt (g := gb131) (o := .cells #[.int .i64 a1_0, .int .i64 a1_1, .string a1_2] 32 (0, 0)) (by (with_reducible repeat (first | refine blk_drewN ?_ _ | refine blk_drew ?_ | refine blk_alloc ?_ _)); exact BK131.out)) : gb132 ≠ gb131)); clear BK131; clear HB; have BK131 := n0_; have HB := n1_; have BK132 := n2_; have GW132 := n3_; have GE132 := n4_; have NB131_132 := n5_; have NB132_131 := n6_; clear n0_ n1_ n2_ n3_ n4_ n5_ n6_; clear hb hbox hg) | ((with_reducible refine gate_dst (N := 8) rfl ?_); refine box_event ?hg (N := 8) ?hd (cs := #[.int .i64 0, .int .i64 0, .string (⟨#[]⟩ : ByteArray)]) (t := 32) ?hr ?_; (case hd => rfl); (case hg => rfl); (case hr => first | (go_simp; done) | (go_simp; rfl)); intro gb133 hg w9 hbox hb; have n0_ := Aside0.mk (blk_below (g := gb131) (o := .cells #[.int .i64 a1_0, .int .i64 a1_1, .string a1_2] 32 (0, 0)) (by (with_reducible repeat (first | refine blk_drewN ?_ _ | refine blk_drew ?_ | refine blk_alloc ?_ _)); exact BK131.out) hb); have n1_ := Aside0.mk (blk_below (g := gb132) (o := .cells #[.int .i64 a2_0, .int .i64 a2_1, .string a2_2] 32 (0, 0)) (by (with_reducible repeat (first | refine blk_drewN ?_ _ | refine blk_drew ?_ | refine blk_alloc ?_ _)); exact BK132.out) hb); have n2_ := Aside0.mk (below_step (by repeat (first | (with_reducible first | exact HB.out | apply below_alloc | apply pw_below_drewN | apply below_drew1 | refine below_set ?_ GE131.out | refine below_set ?_ GE132.out) | exact HB.out)) hb); have n3_ := Aside0.mk (hbox); have n4_ := Aside0.mk ((by rw [hg]; exact (below_size (by repeat (first | (with_reducible first | exact HB.out | apply below_alloc | apply pw_below_drewN | apply below_drew1 | refine below_set ?_ GE131.out | refine below_set ?_ GE132.out) | exact HB.out))) : w.heap.size ≤ gb133)); have n5_ := Aside0.mk ((by rw [hg]; exact (below_size (by repeat (first | (with_reducible first | exact HB.out | apply below_alloc | apply pw_below_drewN | apply below_drew1 | refine below_set ?_ GE131.out | refine below_set ?_ GE132.out) | exact HB.out))) : w.heap.size ≤ gb133)); have n6_ := Aside0.mk ((by rw [hg]; exact Nat.ne_of_lt (blk_lt (g := gb131) (o := .cells #[.int .i64 a1_0, .int .i64 a1_1, .string a1_2] 32 (0, 0)) (by (with_reducible repeat (first | refine blk_drewN ?_ _ | refine blk_drew ?_ | refine blk_alloc ?_ _)); exact BK131.out)) : gb131 ≠ gb133)); have n7_ := Aside0.mk ((by rw [hg]; exact Nat.ne_of_gt (blk_lt (g := gb131) (o := .cells #[.int .i64 a1_0, .int .i64 a1_1, .string a1_2] 32 (0, 0)) (by (with_reducible repeat (first | refine blk_drewN ?_ _ | refine blk_drew ?_ | refine blk_alloc ?_ _)); exact BK131.out)) : gb133 ≠ gb131)); have n8_ := Aside0.mk ((by rw [hg]; exact Nat.ne_of_lt (blk_lt (g := gb132) (o := .cells #[.int .i64 a2_0, .int .i64 a2_1, .string a2_2] 32 (0, 0)) (by (with_reducible repeat (first | refine blk_drewN ?_ _ | refine blk_drew ?_ | refine blk_alloc ?_ _)); exact BK132.out)) : gb132 ≠ gb133)); have n9_ := Aside0.mk ((by rw [hg]; exact Nat.ne_of_gt (blk_lt (g := gb132) (o := .cells #[.int .i64 a2_0, .int .i64 a2_1, .string a2_2] 32 (0, 0)) (by (with_reducible repeat (first | refine blk_drewN ?_ _ | refine blk_drew ?_ | refine blk_alloc ?_ _)); exact BK132.out)) : gb133 ≠ gb132)); clear BK131; clear BK132; clear HB; have BK131 := n0_; have BK132 := n1_; have HB := n2_; have BK133 := n3_; have GW133 := n4_; have GE133 := n5_; have NB131_133 := n6_; have NB133_131 := n7_; have NB132_133 := n8_; have NB133_132 := n9_; clear n0_ n1_ n2_ n3_ n4_ n5_ n6_ n7_ n8_ n9_; clear hb hbox hg) | ((with_reducible refine gate_callee (f := 48) rfl ?_); refine goesL_ (some 18) rfl rfl Tryd.func48 (by kernel_rfl) rfl #[.int .i64 a0] rfl (by (try simp only [List.map_toArray, List.map_cons, List.map_nil]); first | done | rfl | (simp only [List.length_drop, List.length_take]; rfl)) ?_; (with_reducible refine (oper_Swap.calls a0 t134 t135 t136 _ A5.out).mono ?_); rintro e w' ⟨rfl, ⟨nd, rfl⟩⟩; refine ⟨_, rfl, ?_⟩))
  (try simp only [Act.put, List.setIfInBounds_toArray, List.set_cons_zero, List.set_cons_succ])
  go_cut [] (fun wc => ∃ (kq : Nat) (x132000_5 : Int) (x132001_5 : Int) (x132002_5 : ByteArray) (x133000_5 : Int) (x133001_5 : Int) (x133002_5 : ByteArray), Aside0 (oper_Do.j0 kq a3 t134 t136 x132000_5 x132001_5 x132002_5 x133000_5 x133001_5 x133002_5 = some (r1, r2, r3, r4)) ∧ Aside0 (kq ≤ k) ∧ Aside0 (wc.heap[gb131]? = some (.cells #[.int .i64 x132000_5, .int .i64 x132001_5, .string x132002_5] 32 (0, 0))) ∧ Aside0 (wc.heap[gb132]? = some (.cells #[.int .i64 x133000_5, .int .i64 x133001_5, .string x133002_5] 32 (0, 0))) ∧ Aside0 (wc.heap[gb133]? = some (.cells #[.int .i64 0, .int .i64 0, .string (⟨#[]⟩ : ByteArray)] 32 (0, 0))) ∧ Aside0 (Below w.heap.size w wc))
  case first =>
    have H := HC6.out
    clear HC6
    by_cases c10 : t135 = true
    · subst c10
      have H1 : (oper_Do.j0 k a3 t134 t136 a2_0 a2_1 a2_2 a1_0 a1_1 a1_2) = some (r1, r2, r3, r4) := by rw [if_pos rfl] at H; exact H
      clear H
      have H := H1
      clear H1
      have H' := Aside0.mk H
      clear H
      have hnb11 := NB132_131.out
      have hnc11 := NB131_132.out
      have hnb12 := NB132_133.out
      have hnc12 := NB133_132.out
      have hcz13_0 : w9.cell? ⟨gb132, 0, none⟩ = some (.int .i64 a2_0) := (blk_cell BK132.out 0).trans rfl
      have hcz13_1 : w9.cell? ⟨gb132, 1, none⟩ = some (.int .i64 a2_1) := (blk_cell BK132.out 1).trans rfl
      have hcz13_2 : w9.cell? ⟨gb132, 2, none⟩ = some (.string a2_2) := (blk_cell BK132.out 2).trans rfl
      have hfz13_0 := blk_frozen BK132.out 0
      have hfz13_1 := blk_frozen BK132.out 1
      have hfz13_2 := blk_frozen BK132.out 2
      have hnb14 := NB131_133.out
      have hnc14 := NB133_131.out
      have hcz15_0 : w9.cell? ⟨gb131, 0, none⟩ = some (.int .i64 a1_0) := (blk_cell BK131.out 0).trans rfl
      have hcz15_1 : w9.cell? ⟨gb131, 1, none⟩ = some (.int .i64 a1_1) := (blk_cell BK131.out 1).trans rfl
      have hcz15_2 : w9.cell? ⟨gb131, 2, none⟩ = some (.string a1_2) := (blk_cell BK131.out 2).trans rfl
      have hfz15_0 := blk_frozen BK131.out 0
      have hfz15_1 := blk_frozen BK131.out 1
      have hfz15_2 := blk_frozen BK131.out 2
      go_wp2
      go_meet
      case rel => exact ⟨_, (a2_0), (a2_1), (a2_2), (a1_0), (a1_1), (a1_2), H', ⟨by first | omega | exact Nat.le_refl _⟩, ⟨by (with_reducible repeat (first | refine blk_drewN ?_ _ | refine blk_drew ?_ | refine blk_alloc ?_ _)); refine blk_far ?_ NB131_132.out _; (with_reducible repeat (first | refine blk_drewN ?_ _ | refine blk_drew ?_ | refine blk_alloc ?_ _)); refine blk_far ?_ NB131_132.out _; (with_reducible repeat (first | refine blk_drewN ?_ _ | refine blk_drew ?_ | refine blk_alloc ?_ _)); refine blk_far ?_ NB131_132.out _; (with_reducible repeat (first | refine blk_drewN ?_ _ | refine blk_drew ?_ | refine blk_alloc ?_ _)); refine blk_put (cs := #[.int .i64 a2_0, .int .i64 a2_1, .string a1_2]) ?_ 2 _ rfl; (with_reducible repeat (first | refine blk_drewN ?_ _ | refine blk_drew ?_ | refine blk_alloc ?_ _)); refine blk_put (cs := #[.int .i64 a2_0, .int .i64 a1_1, .string a1_2]) ?_ 1 _ rfl; (with_reducible repeat (first | refine blk_drewN ?_ _ | refine blk_drew ?_ | refine blk_alloc ?_ _)); refine blk_put (cs := #[.int .i64 a1_0, .int .i64 a1_1, .string a1_2]) ?_ 0 _ rfl; (with_reducible repeat (first | refine blk_drewN ?_ _ | refine blk_drew ?_ | refine blk_alloc ?_ _)); exact BK131.out⟩, ⟨by (with_reducible repeat (first | refine blk_drewN ?_ _ | refine blk_drew ?_ | refine blk_alloc ?_ _)); refine blk_put (cs := #[.int .i64 a1_0, .int .i64 a1_1, .string a2_2]) ?_ 2 _ rfl; (with_reducible repeat (first | refine blk_drewN ?_ _ | refine blk_drew ?_ | refine blk_alloc ?_ _)); refine blk_put (cs := #[.int .i64 a1_0, .int .i64 a2_1, .string a2_2]) ?_ 1 _ rfl; (with_reducible repeat (first | refine blk_drewN ?_ _ | refine blk_drew ?_ | refine blk_alloc ?_ _)); refine blk_put (cs := #[.int .i64 a2_0, .int .i64 a2_1, .string a2_2]) ?_ 0 _ rfl; (with_reducible repeat (first | refine blk_drewN ?_ _ | refine blk_drew ?_ | refine blk_alloc ?_ _)); refine blk_far ?_ NB132_131.out _; (with_reducible repeat (first | refine blk_drewN ?_ _ | refine blk_drew ?_ | refine blk_alloc ?_ _)); refine blk_far ?_ NB132_131.out _; (with_reducible repeat (first | refine blk_drewN ?_ _ | refine blk_drew ?_ | refine blk_alloc ?_ _)); refine blk_far ?_ NB132_131.out _; (with_reducible repeat (first | refine blk_drewN ?_ _ | refine blk_drew ?_ | refine blk_alloc ?_ _)); exact BK132.out⟩, ⟨by (with_reducible repeat (first | refine blk_drewN ?_ _ | refine blk_drew ?_ | refine blk_alloc ?_ _)); refine blk_far ?_ NB133_132.out _; (with_reducible repeat (first | refine blk_drewN ?_ _ | refine blk_drew ?_ | refine blk_alloc ?_ _)); refine blk_far ?_ NB133_132.out _; (with_reducible repeat (first | refine blk_drewN ?_ _ | refine blk_drew ?_ | refine blk_alloc ?_ _)); refine blk_far ?_ NB133_132.out _; (with_reducible repeat (first | refine blk_drewN ?_ _ | refine blk_drew ?_ | refine blk_alloc ?_ _)); refine blk_far ?_ NB133_131.out _; (with_reducible repeat (first | refine blk_drewN ?_ _ | refine blk_drew ?_ | refine blk_alloc ?_ _)); refine blk_far ?_ NB133_131.out _; (with_reducible repeat (first | refine blk_drewN ?_ _ | refine blk_drew ?_ | refine blk_alloc ?_ _)); refine blk_far ?_ NB133_131.out _; (with_reducible repeat (first | refine blk_drewN ?_ _ | refine blk_drew ?_ | refine blk_alloc ?_ _)); exact BK133.out⟩, ⟨by repeat (first | (with_reducible first | exact HB.out | apply below_alloc | apply pw_below_drewN | apply below_drew1 | refine below_set ?_ GE131.out | refine below_set ?_ GE132.out | refine below_set ?_ GE133.out) | exact HB.out)⟩⟩
    · replace c10 := Bool.eq_false_iff.mpr c10
      subst c10
      have H1 : (oper_Do.j0 k a3 t134 t136 a1_0 a1_1 a1_2 a2_0 a2_1 a2_2) = some (r1, r2, r3, r4) := by rw [if_neg (show ¬ (false = true) by decide)] at H; exact H
      clear H
      have H := H1
      clear H1
      have H' := Aside0.mk H
      clear H
      go_wp2
      go_meet
      case rel => exact ⟨_, (a1_0), (a1_1), (a1_2), (a2_0), (a2_1), (a2_2), H', ⟨by first | omega | exact Nat.le_refl _⟩, ⟨by (with_reducible repeat (first | refine blk_drewN ?_ _ | refine blk_drew ?_ | refine blk_alloc ?_ _)); exact BK131.out⟩, ⟨by (with_reducible repeat (first | refine blk_drewN ?_ _ | refine blk_drew ?_ | refine blk_alloc ?_ _)); exact BK132.out⟩, ⟨by (with_reducible repeat (first | refine blk_drewN ?_ _ | refine blk_drew ?_ | refine blk_alloc ?_ _)); exact BK133.out⟩, ⟨by repeat (first | (with_reducible first | exact HB.out | apply below_alloc | apply pw_below_drewN | apply below_drew1 | refine below_set ?_ GE131.out | refine below_set ?_ GE132.out | refine below_set ?_ GE133.out) | exact HB.out)⟩⟩
  case rest =>
    clear HC6
    try clear c1
    try clear p2
    try clear c4
    try clear c10
    try clear c11
    try clear c12
    try clear c14
    try clear hcz13_0
    try clear hcz13_1
    try clear hcz13_2
    try clear hcz15_0
    try clear hcz15_1
    try clear hcz15_2
    try clear hfz13_0
    try clear hfz13_1
    try clear hfz13_2
    try clear hfz15_0
    try clear hfz15_1
    try clear hfz15_2
    obtain ⟨kq, x132000_5, x132001_5, x132002_5, x133000_5, x133001_5, x133002_5, HA, HJ5, BK131, BK132, BK133, HB⟩ := hcut
    cases kq with
    | zero => exact absurd HA.out (by simp [oper_Do.j0])
    | succ kj5 =>
      have H := HA.out
      clear HA
      simp only [oper_Do.j0] at H
      by_cases c16 : t134 = 11
      · rw [if_pos c16] at H
        have c16b0 : (t134 == 11) = true := beq_iff_eq.mpr c16
        have c16b1 : (t134 != 11) = false := bne_eq_false_iff_eq.mpr c16
        clear c16
        replace H := Option.bind_eq_some_iff.mp H
        obtain ⟨⟨t137, t138, t139, t140⟩, A170, H⟩ := H
        replace H : (some (t137, t138, t139, t140)) = some (r1, r2, r3, r4) := H
        have A17 := Aside0.mk A170
        clear A170
        simp only [Option.some.injEq, Prod.mk.injEq] at H
        obtain ⟨rfl, rfl, rfl, rfl⟩ := H
        have hnb18 := NB131_132.out
        have hnc18 := NB132_131.out
        have hnb19 := NB131_133.out
        have hnc19 := NB133_131.out
        have hcz20_0 : wc.cell? ⟨gb131, 0, none⟩ = some (.int .i64 x132000_5) := (blk_cell BK131.out 0).trans rfl
        have hcz20_1 : wc.cell? ⟨gb131, 1, none⟩ = some (.int .i64 x132001_5) := (blk_cell BK131.out 1).trans rfl
        have hcz20_2 : wc.cell? ⟨gb131, 2, none⟩ = some (.string x132002_5) := (blk_cell BK131.out 2).trans rfl
        have hfz20_0 := blk_frozen BK131.out 0
        have hfz20_1 := blk_frozen BK131.out 1
        have hfz20_2 := blk_frozen BK131.out 2
        have hnb21 := NB132_133.out
        have hnc21 := NB133_132.out
        have hcz22_0 : wc.cell? ⟨gb132, 0, none⟩ = some (.int .i64 x133000_5) := (blk_cell BK132.out 0).trans rfl
        have hcz22_1 : wc.cell? ⟨gb132, 1, none⟩ = some (.int .i64 x133001_5) := (blk_cell BK132.out 1).trans rfl
        have hcz22_2 : wc.cell? ⟨gb132, 2, none⟩ = some (.string x133002_5) := (blk_cell BK132.out 2).trans rfl
        have hfz22_0 := blk_frozen BK132.out 0
        have hfz22_1 := blk_frozen BK132.out 1
        have hfz22_2 := blk_frozen BK132.out 2
        go_wp2_with (first | ((with_reducible refine gate_callee (f := 69) rfl ?_); refine goesL_ (some 37) rfl rfl Tryd.func69 (by kernel_rfl) rfl #[.agg #[.int .i64 x132000_5, .int .i64 x132001_5, .string x132002_5], .agg #[.int .i64 x133000_5, .int .i64 x133001_5, .string x133002_5], .int .i64 a3] rfl (by (try simp only [List.map_toArray, List.map_cons, List.map_nil]); first | done | rfl | (simp only [List.length_drop, List.length_take]; rfl)) ?_; (with_reducible refine (oper_join.calls kj5 x132000_5 x132001_5 x132002_5 x133000_5 x133001_5 x133002_5 a3 t137 t138 t139 t140 _ (HTT.out.on (by repeat (first | (with_reducible first | exact HB.out | apply below_alloc | apply pw_below_drewN | apply below_drew1 | refine below_set ?_ GE131.out | refine below_set ?_ GE132.out | refine below_set ?_ GE133.out) | exact HB.out))) A17.out).mono ?_); rintro e w23 ⟨rfl, hb⟩; refine ⟨_, rfl, ?_⟩; have n0_ := Aside0.mk (blk_below (g := gb131) (o := .cells #[.int .i64 x132000_5, .int .i64 x132001_5, .string x132002_5] 32 (0, 0)) (by (with_reducible repeat (first | refine blk_drewN ?_ _ | refine blk_drew ?_ | refine blk_alloc ?_ _)); exact BK131.out) hb); have n1_ := Aside0.mk (blk_below (g := gb132) (o := .cells #[.int .i64 x133000_5, .int .i64 x133001_5, .string x133002_5] 32 (0, 0)) (by (with_reducible repeat (first | refine blk_drewN ?_ _ | refine blk_drew ?_ | refine blk_alloc ?_ _)); exact BK132.out) hb); have n2_ := Aside0.mk (blk_below (g := gb133) (o := .cells #[.int .i64 0, .int .i64 0, .string (⟨#[]⟩ : ByteArray)] 32 (0, 0)) (by (with_reducible repeat (first | refine blk_drewN ?_ _ | refine blk_drew ?_ | refine blk_alloc ?_ _)); exact BK133.out) hb); have n3_ := Aside0.mk (below_step (by repeat (first | (with_reducible first | exact HB.out | apply below_alloc | apply pw_below_drewN | apply below_drew1 | refine below_set ?_ GE131.out | refine below_set ?_ GE132.out | refine below_set ?_ GE133.out) | exact HB.out)) hb); clear BK131; clear BK132; clear BK133; clear HB; have BK131 := n0_; have BK132 := n1_; have BK133 := n2_; have HB := n3_; clear n0_ n1_ n2_ n3_; (try clear hb); (try clear hb2); (try clear hk); (try clear hi); have hcz24_0 : w23.cell? ⟨gb133, 0, none⟩ = some (.int .i64 0) := (blk_cell BK133.out 0).trans rfl; have hcz24_1 : w23.cell? ⟨gb133, 1, none⟩ = some (.int .i64 0) := (blk_cell BK133.out 1).trans rfl; have hcz24_2 : w23.cell? ⟨gb133, 2, none⟩ = some (.string (⟨#[]⟩ : ByteArray)) := (blk_cell BK133.out 2).trans rfl; have hfz24_0 := blk_frozen BK133.out 0; have hfz24_1 := blk_frozen BK133.out 1; have hfz24_2 := blk_frozen BK133.out 2))
        refine bodyPost_ret (results_ct rfl _ _ gb133 32 #[.int .i64 t137, .int .i64 t138, .string t139] (0, 0) _ rfl (by (with_reducible repeat (first | refine blk_drewN ?_ _ | refine blk_drew ?_ | refine blk_alloc ?_ _)); refine blk_put (cs := #[.int .i64 t137, .int .i64 t138, .string (⟨#[]⟩ : ByteArray)]) ?_ 2 _ rfl; (with_reducible repeat (first | refine blk_drewN ?_ _ | refine blk_drew ?_ | refine blk_alloc ?_ _)); refine blk_put (cs := #[.int .i64 t137, .int .i64 0, .string (⟨#[]⟩ : ByteArray)]) ?_ 1 _ rfl; (with_reducible repeat (first | refine blk_drewN ?_ _ | refine blk_drew ?_ | refine blk_alloc ?_ _)); refine blk_put (cs := #[.int .i64 0, .int .i64 0, .string (⟨#[]⟩ : ByteArray)]) ?_ 0 _ rfl; (with_reducible repeat (first | refine blk_drewN ?_ _ | refine blk_drew ?_ | refine blk_alloc ?_ _)); exact BK133.out) Tryd.underlying32 rfl (by kernel_rfl)) rfl ?_
        exact ⟨by first | rfl | (simp [errW_none, errW_some] <;> rfl) | (simp [*, errW_none, errW_some] <;> rfl), by repeat (first | (with_reducible first | exact HB.out | apply below_alloc | apply pw_below_drewN | apply below_drew1 | refine below_set ?_ GE131.out | refine below_set ?_ GE132.out | refine below_set ?_ GE133.out) | exact HB.out)⟩
      · rw [if_neg c16] at H
        have c16b0 : (t134 == 11) = false := beq_eq_false_iff_ne.mpr c16
        have c16b1 : (t134 != 11) = true := bne_iff_ne.mpr c16
        by_cases c25 : t134 = 12
        · rw [if_pos c25] at H
          have c25b0 : (t134 == 12) = true := beq_iff_eq.mpr c25
          have c25b1 : (t134 != 12) = false := bne_eq_false_iff_eq.mpr c25
          clear c25
          replace H := Option.bind_eq_some_iff.mp H
          obtain ⟨t151, A260, H⟩ := H
          replace H : ((value_OfBool.f (t151 != t136)).bind fun bt152 => (some (bt152.1, bt152.2.1, bt152.2.2, 0))) = some (r1, r2, r3, r4) := H
          have A26 := Aside0.mk A260
          clear A260
          replace H := Option.bind_eq_some_iff.mp H
          obtain ⟨⟨t152, t153, t154⟩, A270, H⟩ := H
          replace H : (some (t152, t153, t154, 0)) = some (r1, r2, r3, r4) := H
          have A27 := Aside0.mk A270
          clear A270
          simp only [Option.some.injEq, Prod.mk.injEq] at H
          obtain ⟨rfl, rfl, rfl, rfl⟩ := H
          have hnb28 := NB131_132.out
          have hnc28 := NB132_131.out
          have hnb29 := NB131_133.out
          have hnc29 := NB133_131.out
          have hcz30_0 : wc.cell? ⟨gb131, 0, none⟩ = some (.int .i64 x132000_5) := (blk_cell BK131.out 0).trans rfl
          have hcz30_1 : wc.cell? ⟨gb131, 1, none⟩ = some (.int .i64 x132001_5) := (blk_cell BK131.out 1).trans rfl
          have hcz30_2 : wc.cell? ⟨gb131, 2, none⟩ = some (.string x132002_5) := (blk_cell BK131.out 2).trans rfl
          have hfz30_0 := blk_frozen BK131.out 0
          have hfz30_1 := blk_frozen BK131.out 1
          have hfz30_2 := blk_frozen BK131.out 2
          have hnb31 := NB132_133.out
          have hnc31 := NB133_132.out
          have hcz32_0 : wc.cell? ⟨gb132, 0, none⟩ = some (.int .i64 x133000_5) := (blk_cell BK132.out 0).trans rfl
          have hcz32_1 : wc.cell? ⟨gb132, 1, none⟩ = some (.int .i64 x133001_5) := (blk_cell BK132.out 1).trans rfl
          have hcz32_2 : wc.cell? ⟨gb132, 2, none⟩ = some (.string x133002_5) := (blk_cell BK132.out 2).trans rfl
          have hfz32_0 := blk_frozen BK132.out 0
          have hfz32_1 := blk_frozen BK132.out 1
          have hfz32_2 := blk_frozen BK132.out 2
          go_wp2_with (first | ((with_reducible refine gate_callee (f := 70) rfl ?_); refine goesL_ (some 42) rfl rfl Tryd.func70 (by kernel_rfl) rfl #[.agg #[.int .i64 x132000_5, .int .i64 x132001_5, .string x132002_5], .agg #[.int .i64 x133000_5, .int .i64 x133001_5, .string x133002_5]] rfl (by (try simp only [List.map_toArray, List.map_cons, List.map_nil]); first | done | rfl | (simp only [List.length_drop, List.length_take]; rfl)) ?_; (with_reducible refine (value_Raw.calls x132000_5 x132001_5 x132002_5 x133000_5 x133001_5 x133002_5 t151 _ A26.out).mono ?_); rintro e w33 ⟨rfl, hb⟩; refine ⟨_, rfl, ?_⟩; have n0_ := Aside0.mk (blk_below (g := gb131) (o := .cells #[.int .i64 x132000_5, .int .i64 x132001_5, .string x132002_5] 32 (0, 0)) (by (with_reducible repeat (first | refine blk_drewN ?_ _ | refine blk_drew ?_ | refine blk_alloc ?_ _)); exact BK131.out) hb); have n1_ := Aside0.mk (blk_below (g := gb132) (o := .cells #[.int .i64 x133000_5, .int .i64 x133001_5, .string x133002_5] 32 (0, 0)) (by (with_reducible repeat (first | refine blk_drewN ?_ _ | refine blk_drew ?_ | refine blk_alloc ?_ _)); exact BK132.out) hb); have n2_ := Aside0.mk (blk_below (g := gb133) (o := .cells #[.int .i64 0, .int .i64 0, .string (⟨#[]⟩ : ByteArray)] 32 (0, 0)) (by (with_reducible repeat (first | refine blk_drewN ?_ _ | refine blk_drew ?_ | refine blk_alloc ?_ _)); exact BK133.out) hb); have n3_ := Aside0.mk (below_step (by repeat (first | (with_reducible first | exact HB.out | apply below_alloc | apply pw_below_drewN | apply below_drew1 | refine below_set ?_ GE131.out | refine below_set ?_ GE132.out | refine below_set ?_ GE133.out) | exact HB.out)) hb); clear BK131; clear BK132; clear BK133; clear HB; have BK131 := n0_; have BK132 := n1_; have BK133 := n2_; have HB := n3_; clear n0_ n1_ n2_ n3_; (try clear hb); (try clear hb2); (try clear hk); (try clear hi)) | ((with_reducible refine gate_callee (f := 49) rfl ?_); refine goesL_ (some 71) rfl rfl Tryd.func49 (by kernel_rfl) rfl #[.bool (t151 != t136)] rfl (by (try simp only [List.map_toArray, List.map_cons, List.map_nil]); first | done | rfl | (simp only [List.length_drop, List.length_take]; rfl)) ?_; (with_reducible refine (value_OfBool.calls (t151 != t136) t152 t153 t154 _ A27.out).mono ?_); rintro e w34 ⟨rfl, hb⟩; refine ⟨_, rfl, ?_⟩; have n0_ := Aside0.mk (blk_below (g := gb131) (o := .cells #[.int .i64 x132000_5, .int .i64 x132001_5, .string x132002_5] 32 (0, 0)) (by (with_reducible repeat (first | refine blk_drewN ?_ _ | refine blk_drew ?_ | refine blk_alloc ?_ _)); exact BK131.out) hb); have n1_ := Aside0.mk (blk_below (g := gb132) (o := .cells #[.int .i64 x133000_5, .int .i64 x133001_5, .string x133002_5] 32 (0, 0)) (by (with_reducible repeat (first | refine blk_drewN ?_ _ | refine blk_drew ?_ | refine blk_alloc ?_ _)); exact BK132.out) hb); have n2_ := Aside0.mk (blk_below (g := gb133) (o := .cells #[.int .i64 0, .int .i64 0, .string (⟨#[]⟩ : ByteArray)] 32 (0, 0)) (by (with_reducible repeat (first | refine blk_drewN ?_ _ | refine blk_drew ?_ | refine blk_alloc ?_ _)); exact BK133.out) hb); have n3_ := Aside0.mk (below_step (by repeat (first | (with_reducible first | exact HB.out | apply below_alloc | apply pw_below_drewN | apply below_drew1 | refine below_set ?_ GE131.out | refine below_set ?_ GE132.out | refine below_set ?_ GE133.out) | exact HB.out)) hb); clear BK131; clear BK132; clear BK133; clear HB; have BK131 := n0_; have BK132 := n1_; have BK133 := n2_; have HB := n3_; clear n0_ n1_ n2_ n3_; (try clear hb); (try clear hb2); (try clear hk); (try clear hi); have hcz35_0 : w34.cell? ⟨gb133, 0, none⟩ = some (.int .i64 0) := (blk_cell BK133.out 0).trans rfl; have hcz35_1 : w34.cell? ⟨gb133, 1, none⟩ = some (.int .i64 0) := (blk_cell BK133.out 1).trans rfl; have hcz35_2 : w34.cell? ⟨gb133, 2, none⟩ = some (.string (⟨#[]⟩ : ByteArray)) := (blk_cell BK133.out 2).trans rfl; have hfz35_0 := blk_frozen BK133.out 0; have hfz35_1 := blk_frozen BK133.out 1; have hfz35_2 := blk_frozen BK133.out 2))
          refine bodyPost_ret (results_ct rfl _ _ gb133 32 #[.int .i64 t152, .int .i64 t153, .string t154] (0, 0) _ rfl (by (with_reducible repeat (first | refine blk_drewN ?_ _ | refine blk_drew ?_ | refine blk_alloc ?_ _)); refine blk_put (cs := #[.int .i64 t152, .int .i64 t153, .string (⟨#[]⟩ : ByteArray)]) ?_ 2 _ rfl; (with_reducible repeat (first | refine blk_drewN ?_ _ | refine blk_drew ?_ | refine blk_alloc ?_ _)); refine blk_put (cs := #[.int .i64 t152, .int .i64 0, .string (⟨#[]⟩ : ByteArray)]) ?_ 1 _ rfl; (with_reducible repeat (first | refine blk_drewN ?_ _ | refine blk_drew ?_ | refine blk_alloc ?_ _)); refine blk_put (cs := #[.int .i64 0, .int .i64 0, .string (⟨#[]⟩ : ByteArray)]) ?_ 0 _ rfl; (with_reducible repeat (first | refine blk_drewN ?_ _ | refine blk_drew ?_ | refine blk_alloc ?_ _)); exact BK133.out) Tryd.underlying32 rfl (by kernel_rfl)) rfl ?_
          exact ⟨by first | rfl | (simp [errW_none, errW_some] <;> rfl) | (simp [*, errW_none, errW_some] <;> rfl), by repeat (first | (with_reducible first | exact HB.out | apply below_alloc | apply pw_below_drewN | apply below_drew1 | refine below_set ?_ GE131.out | refine below_set ?_ GE132.out | refine below_set ?_ GE133.out) | exact HB.out)⟩
        · rw [if_neg c25] at H
          have c25b0 : (t134 == 12) = false := beq_eq_false_iff_ne.mpr c25
          have c25b1 : (t134 != 12) = true := bne_iff_ne.mpr c25
          by_cases c36 : t134 = 15
          · rw [if_pos c36] at H
            have c36b0 : (t134 == 15) = true := beq_iff_eq.mpr c36
            have c36b1 : (t134 != 15) = false := bne_eq_false_iff_eq.mpr c36
            clear c36
            replace H := Option.bind_eq_some_iff.mp H
            obtain ⟨⟨t141, t142⟩, A370, H⟩ := H
            replace H : (if t142 = true then ((value_OfBool.f (!t141)).bind fun bt143 => (some (bt143.1, bt143.2.1, bt143.2.2, 0))) else (some (0, 0, (⟨#[]⟩ : ByteArray), 18))) = some (r1, r2, r3, r4) := H
            have A37 := Aside0.mk A370
            clear A370
            by_cases c38 : t142 = true
            · subst c38
              have H1 : ((value_OfBool.f (!t141)).bind fun bt143 => (some (bt143.1, bt143.2.1, bt143.2.2, 0))) = some (r1, r2, r3, r4) := by rw [if_pos rfl] at H; exact H
              clear H
              have H := H1
              clear H1
              replace H := Option.bind_eq_some_iff.mp H
              obtain ⟨⟨t143, t144, t145⟩, A390, H⟩ := H
              replace H : (some (t143, t144, t145, 0)) = some (r1, r2, r3, r4) := H
              have A39 := Aside0.mk A390
              clear A390
              simp only [Option.some.injEq, Prod.mk.injEq] at H
              obtain ⟨rfl, rfl, rfl, rfl⟩ := H
              have hnb40 := NB132_131.out
              have hnc40 := NB131_132.out
              have hnb41 := NB132_133.out
              have hnc41 := NB133_132.out
              have hcz42_0 : wc.cell? ⟨gb132, 0, none⟩ = some (.int .i64 x133000_5) := (blk_cell BK132.out 0).trans rfl
              have hcz42_1 : wc.cell? ⟨gb132, 1, none⟩ = some (.int .i64 x133001_5) := (blk_cell BK132.out 1).trans rfl
              have hcz42_2 : wc.cell? ⟨gb132, 2, none⟩ = some (.string x133002_5) := (blk_cell BK132.out 2).trans rfl
              have hfz42_0 := blk_frozen BK132.out 0
              have hfz42_1 := blk_frozen BK132.out 1
              have hfz42_2 := blk_frozen BK132.out 2
              have hnb43 := NB131_133.out
              have hnc43 := NB133_131.out
              have hcz44_0 : wc.cell? ⟨gb131, 0, none⟩ = some (.int .i64 x132000_5) := (blk_cell BK131.out 0).trans rfl
              have hcz44_1 : wc.cell? ⟨gb131, 1, none⟩ = some (.int .i64 x132001_5) := (blk_cell BK131.out 1).trans rfl
              have hcz44_2 : wc.cell? ⟨gb131, 2, none⟩ = some (.string x132002_5) := (blk_cell BK131.out 2).trans rfl
              have hfz44_0 := blk_frozen BK131.out 0
              have hfz44_1 := blk_frozen BK131.out 1
              have hfz44_2 := blk_frozen BK131.out 2
              go_wp2_with (first | ((with_reducible refine gate_callee (f := 71) rfl ?_); refine goesL_ (some 48) rfl rfl Tryd.func71 (by kernel_rfl) rfl #[.agg #[.int .i64 x133000_5, .int .i64 x133001_5, .string x133002_5], .agg #[.int .i64 x132000_5, .int .i64 x132001_5, .string x132002_5]] rfl (by (try simp only [List.map_toArray, List.map_cons, List.map_nil]); first | done | rfl | (simp only [List.length_drop, List.length_take]; rfl)) ?_; (with_reducible refine (value_Less.calls x133000_5 x133001_5 x133002_5 x132000_5 x132001_5 x132002_5 t141 true _ A37.out).mono ?_); rintro e w45 ⟨rfl, hb⟩; refine ⟨_, rfl, ?_⟩; have n0_ := Aside0.mk (blk_below (g := gb131) (o := .cells #[.int .i64 x133000_5, .int .i64 x133001_5, .string x133002_5] 32 (0, 0)) (by (with_reducible repeat (first | refine blk_drewN ?_ _ | refine blk_drew ?_ | refine blk_alloc ?_ _)); refine blk_far ?_ NB131_132.out _; (with_reducible repeat (first | refine blk_drewN ?_ _ | refine blk_drew ?_ | refine blk_alloc ?_ _)); refine blk_far ?_ NB131_132.out _; (with_reducible repeat (first | refine blk_drewN ?_ _ | refine blk_drew ?_ | refine blk_alloc ?_ _)); refine blk_far ?_ NB131_132.out _; (with_reducible repeat (first | refine blk_drewN ?_ _ | refine blk_drew ?_ | refine blk_alloc ?_ _)); refine blk_put (cs := #[.int .i64 x133000_5, .int .i64 x133001_5, .string x132002_5]) ?_ 2 _ rfl; (with_reducible repeat (first | refine blk_drewN ?_ _ | refine blk_drew ?_ | refine blk_alloc ?_ _)); refine blk_put (cs := #[.int .i64 x133000_5, .int .i64 x132001_5, .string x132002_5]) ?_ 1 _ rfl; (with_reducible repeat (first | refine blk_drewN ?_ _ | refine blk_drew ?_ | refine blk_alloc ?_ _)); refine blk_put (cs := #[.int .i64 x132000_5, .int .i64 x132001_5, .string x132002_5]) ?_ 0 _ rfl; (with_reducible repeat (first | refine blk_drewN ?_ _ | refine blk_drew ?_ | refine blk_alloc ?_ _)); exact BK131.out) hb); have n1_ := Aside0.mk (blk_below (g := gb132) (o := .cells #[.int .i64 x132000_5, .int .i64 x132001_5, .string x132002_5] 32 (0, 0)) (by (with_reducible repeat (first | refine blk_drewN ?_ _ | refine blk_drew ?_ | refine blk_alloc ?_ _)); refine blk_put (cs := #[.int .i64 x132000_5, .int .i64 x132001_5, .string x133002_5]) ?_ 2 _ rfl; (with_reducible repeat (first | refine blk_drewN ?_ _ | refine blk_drew ?_ | refine blk_alloc ?_ _)); refine blk_put (cs := #[.int .i64 x132000_5, .int .i64 x133001_5, .string x133002_5]) ?_ 1 _ rfl; (with_reducible repeat (first | refine blk_drewN ?_ _ | refine blk_drew ?_ | refine blk_alloc ?_ _)); refine blk_put (cs := #[.int .i64 x133000_5, .int .i64 x133001_5, .string x133002_5]) ?_ 0 _ rfl; (with_reducible repeat (first | refine blk_drewN ?_ _ | refine blk_drew ?_ | refine blk_alloc ?_ _)); refine blk_far ?_ NB132_131.out _; (with_reducible repeat (first | refine blk_drewN ?_ _ | refine blk_drew ?_ | refine blk_alloc ?_ _)); refine blk_far ?_ NB132_131.out _; (with_reducible repeat (first | refine blk_drewN ?_ _ | refine blk_drew ?_ | refine blk_alloc ?_ _)); refine blk_far ?_ NB132_131.out _; (with_reducible repeat (first | refine blk_drewN ?_ _ | refine blk_drew ?_ | refine blk_alloc ?_ _)); exact BK132.out) hb); have n2_ := Aside0.mk (blk_below (g := gb133) (o := .cells #[.int .i64 0, .int .i64 0, .string (⟨#[]⟩ : ByteArray)] 32 (0, 0)) (by (with_reducible repeat (first | refine blk_drewN ?_ _ | refine blk_drew ?_ | refine blk_alloc ?_ _)); refine blk_far ?_ NB133_132.out _; (with_reducible repeat (first | refine blk_drewN ?_ _ | refine blk_drew ?_ | refine blk_alloc ?_ _)); refine blk_far ?_ NB133_132.out _; (with_reducible repeat (first | refine blk_drewN ?_ _ | refine blk_drew ?_ | refine blk_alloc ?_ _)); refine blk_far ?_ NB133_132.out _; (with_reducible repeat (first | refine blk_drewN ?_ _ | refine blk_drew ?_ | refine blk_alloc ?_ _)); refine blk_far ?_ NB133_131.out _; (with_reducible repeat (first | refine blk_drewN ?_ _ | refine blk_drew ?_ | refine blk_alloc ?_ _)); refine blk_far ?_ NB133_131.out _; (with_reducible repeat (first | refine blk_drewN ?_ _ | refine blk_drew ?_ | refine blk_alloc ?_ _)); refine blk_far ?_ NB133_131.out _; (with_reducible repeat (first | refine blk_drewN ?_ _ | refine blk_drew ?_ | refine blk_alloc ?_ _)); exact BK133.out) hb); have n3_ := Aside0.mk (below_step (by repeat (first | (with_reducible first | exact HB.out | apply below_alloc | apply pw_below_drewN | apply below_drew1 | refine below_set ?_ GE131.out | refine below_set ?_ GE132.out | refine below_set ?_ GE133.out) | exact HB.out)) hb); clear BK131; clear BK132; clear BK133; clear HB; have BK131 := n0_; have BK132 := n1_; have BK133 := n2_; have HB := n3_; clear n0_ n1_ n2_ n3_; (try clear hb); (try clear hb2); (try clear hk); (try clear hi)) | ((with_reducible refine gate_callee (f := 49) rfl ?_); refine goesL_ (some 71) rfl rfl Tryd.func49 (by kernel_rfl) rfl #[.bool (!t141)] rfl (by (try simp only [List.map_toArray, List.map_cons, List.map_nil]); first | done | rfl | (simp only [List.length_drop, List.length_take]; rfl)) ?_; (with_reducible refine (value_OfBool.calls (!t141) t143 t144 t145 _ A39.out).mono ?_); rintro e w46 ⟨rfl, hb⟩; refine ⟨_, rfl, ?_⟩; have n0_ := Aside0.mk (blk_below (g := gb131) (o := .cells #[.int .i64 x133000_5, .int .i64 x133001_5, .string x133002_5] 32 (0, 0)) (by (with_reducible repeat (first | refine blk_drewN ?_ _ | refine blk_drew ?_ | refine blk_alloc ?_ _)); exact BK131.out) hb); have n1_ := Aside0.mk (blk_below (g := gb132) (o := .cells #[.int .i64 x132000_5, .int .i64 x132001_5, .string x132002_5] 32 (0, 0)) (by (with_reducible repeat (first | refine blk_drewN ?_ _ | refine blk_drew ?_ | refine blk_alloc ?_ _)); exact BK132.out) hb); have n2_ := Aside0.mk (blk_below (g := gb133) (o := .cells #[.int .i64 0, .int .i64 0, .string (⟨#[]⟩ : ByteArray)] 32 (0, 0)) (by (with_reducible repeat (first | refine blk_drewN ?_ _ | refine blk_drew ?_ | refine blk_alloc ?_ _)); exact BK133.out) hb); have n3_ := Aside0.mk (below_step (by repeat (first | (with_reducible first | exact HB.out | apply below_alloc | apply pw_below_drewN | apply below_drew1 | refine below_set ?_ GE131.out | refine below_set ?_ GE132.out | refine below_set ?_ GE133.out) | exact HB.out)) hb); clear BK131; clear BK132; clear BK133; clear HB; have BK131 := n0_; have BK132 := n1_; have BK133 := n2_; have HB := n3_; clear n0_ n1_ n2_ n3_; (try clear hb); (try clear hb2); (try clear hk); (try clear hi); have hcz47_0 : w46.cell? ⟨gb133, 0, none⟩ = some (.int .i64 0) := (blk_cell BK133.out 0).trans rfl; have hcz47_1 : w46.cell? ⟨gb133, 1, none⟩ = some (.int .i64 0) := (blk_cell BK133.out 1).trans rfl; have hcz47_2 : w46.cell? ⟨gb133, 2, none⟩ = some (.string (⟨#[]⟩ : ByteArray)) := (blk_cell BK133.out 2).trans rfl; have hfz47_0 := blk_frozen BK133.out 0; have hfz47_1 := blk_frozen BK133.out 1; have hfz47_2 := blk_frozen BK133.out 2))
              refine bodyPost_ret (results_ct rfl _ _ gb133 32 #[.int .i64 t143, .int .i64 t144, .string t145] (0, 0) _ rfl (by (with_reducible repeat (first | refine blk_drewN ?_ _ | refine blk_drew ?_ | refine blk_alloc ?_ _)); refine blk_put (cs := #[.int .i64 t143, .int .i64 t144, .string (⟨#[]⟩ : ByteArray)]) ?_ 2 _ rfl; (with_reducible repeat (first | refine blk_drewN ?_ _ | refine blk_drew ?_ | refine blk_alloc ?_ _)); refine blk_put (cs := #[.int .i64 t143, .int .i64 0, .string (⟨#[]⟩ : ByteArray)]) ?_ 1 _ rfl; (with_reducible repeat (first | refine blk_drewN ?_ _ | refine blk_drew ?_ | refine blk_alloc ?_ _)); refine blk_put (cs := #[.int .i64 0, .int .i64 0, .string (⟨#[]⟩ : ByteArray)]) ?_ 0 _ rfl; (with_reducible repeat (first | refine blk_drewN ?_ _ | refine blk_drew ?_ | refine blk_alloc ?_ _)); exact BK133.out) Tryd.underlying32 rfl (by kernel_rfl)) rfl ?_
              exact ⟨by first | rfl | (simp [errW_none, errW_some] <;> rfl) | (simp [*, errW_none, errW_some] <;> rfl), by repeat (first | (with_reducible first | exact HB.out | apply below_alloc | apply pw_below_drewN | apply below_drew1 | refine below_set ?_ GE131.out | refine below_set ?_ GE132.out | refine below_set ?_ GE133.out) | exact HB.out)⟩
            · replace c38 := Bool.eq_false_iff.mpr c38
              subst c38
              have H1 : (some (0, 0, (⟨#[]⟩ : ByteArray), 18)) = some (r1, r2, r3, r4) := by rw [if_neg (show ¬ (false = true) by decide)] at H; exact H
              clear H
              have H := H1
              clear H1
              simp only [Option.some.injEq, Prod.mk.injEq] at H
              obtain ⟨rfl, rfl, rfl, rfl⟩ := H
              have hnb48 := NB132_131.out
              have hnc48 := NB131_132.out
              have hnb49 := NB132_133.out
              have hnc49 := NB133_132.out
              have hcz50_0 : wc.cell? ⟨gb132, 0, none⟩ = some (.int .i64 x133000_5) := (blk_cell BK132.out 0).trans rfl
              have hcz50_1 : wc.cell? ⟨gb132, 1, none⟩ = some (.int .i64 x133001_5) := (blk_cell BK132.out 1).trans rfl
              have hcz50_2 : wc.cell? ⟨gb132, 2, none⟩ = some (.string x133002_5) := (blk_cell BK132.out 2).trans rfl
              have hfz50_0 := blk_frozen BK132.out 0
              have hfz50_1 := blk_frozen BK132.out 1
              have hfz50_2 := blk_frozen BK132.out 2
              have hnb51 := NB131_133.out
              have hnc51 := NB133_131.out
              have hcz52_0 : wc.cell? ⟨gb131, 0, none⟩ = some (.int .i64 x132000_5) := (blk_cell BK131.out 0).trans rfl
              have hcz52_1 : wc.cell? ⟨gb131, 1, none⟩ = some (.int .i64 x132001_5) := (blk_cell BK131.out 1).trans rfl
              have hcz52_2 : wc.cell? ⟨gb131, 2, none⟩ = some (.string x132002_5) := (blk_cell BK131.out 2).trans rfl
              have hfz52_0 := blk_frozen BK131.out 0
              have hfz52_1 := blk_frozen BK131.out 1
              have hfz52_2 := blk_frozen BK131.out 2
              go_wp2_with (first | ((with_reducible refine gate_callee (f := 71) rfl ?_); refine goesL_ (some 48) rfl rfl Tryd.func71 (by kernel_rfl) rfl #[.agg #[.int .i64 x133000_5, .int .i64 x133001_5, .string x133002_5], .agg #[.int .i64 x132000_5, .int .i64 x132001_5, .string x132002_5]] rfl (by (try simp only [List.map_toArray, List.map_cons, List.map_nil]); first | done | rfl | (simp only [List.length_drop, List.length_take]; rfl)) ?_; (with_reducible refine (value_Less.calls x133000_5 x133001_5 x133002_5 x132000_5 x132001_5 x132002_5 t141 false _ A37.out).mono ?_); rintro e w53 ⟨rfl, hb⟩; refine ⟨_, rfl, ?_⟩; have n0_ := Aside0.mk (blk_below (g := gb131) (o := .cells #[.int .i64 x133000_5, .int .i64 x133001_5, .string x133002_5] 32 (0, 0)) (by (with_reducible repeat (first | refine blk_drewN ?_ _ | refine blk_drew ?_ | refine blk_alloc ?_ _)); refine blk_far ?_ NB131_132.out _; (with_reducible repeat (first | refine blk_drewN ?_ _ | refine blk_drew ?_ | refine blk_alloc ?_ _)); refine blk_far ?_ NB131_132.out _; (with_reducible repeat (first | refine blk_drewN ?_ _ | refine blk_drew ?_ | refine blk_alloc ?_ _)); refine blk_far ?_ NB131_132.out _; (with_reducible repeat (first | refine blk_drewN ?_ _ | refine blk_drew ?_ | refine blk_alloc ?_ _)); refine blk_put (cs := #[.int .i64 x133000_5, .int .i64 x133001_5, .string x132002_5]) ?_ 2 _ rfl; (with_reducible repeat (first | refine blk_drewN ?_ _ | refine blk_drew ?_ | refine blk_alloc ?_ _)); refine blk_put (cs := #[.int .i64 x133000_5, .int .i64 x132001_5, .string x132002_5]) ?_ 1 _ rfl; (with_reducible repeat (first | refine blk_drewN ?_ _ | refine blk_drew ?_ | refine blk_alloc ?_ _)); refine blk_put (cs := #[.int .i64 x132000_5, .int .i64 x132001_5, .string x132002_5]) ?_ 0 _ rfl; (with_reducible repeat (first | refine blk_drewN ?_ _ | refine blk_drew ?_ | refine blk_alloc ?_ _)); exact BK131.out) hb); have n1_ := Aside0.mk (blk_below (g := gb132) (o := .cells #[.int .i64 x132000_5, .int .i64 x132001_5, .string x132002_5] 32 (0, 0)) (by (with_reducible repeat (first | refine blk_drewN ?_ _ | refine blk_drew ?_ | refine blk_alloc ?_ _)); refine blk_put (cs := #[.int .i64 x132000_5, .int .i64 x132001_5, .string x133002_5]) ?_ 2 _ rfl; (with_reducible repeat (first | refine blk_drewN ?_ _ | refine blk_drew ?_ | refine blk_alloc ?_ _)); refine blk_put (cs := #[.int .i64 x132000_5, .int .i64 x133001_5, .string x133002_5]) ?_ 1 _ rfl; (with_reducible repeat (first | refine blk_drewN ?_ _ | refine blk_drew ?_ | refine blk_alloc ?_ _)); refine blk_put (cs := #[.int .i64 x133000_5, .int .i64 x133001_5, .string x133002_5]) ?_ 0 _ rfl; (with_reducible repeat (first | refine blk_drewN ?_ _ | refine blk_drew ?_ | refine blk_alloc ?_ _)); refine blk_far ?_ NB132_131.out _; (with_reducible repeat (first | refine blk_drewN ?_ _ | refine blk_drew ?_ | refine blk_alloc ?_ _)); refine blk_far ?_ NB132_131.out _; (with_reducible repeat (first | refine blk_drewN ?_ _ | refine blk_drew ?_ | refine blk_alloc ?_ _)); refine blk_far ?_ NB132_131.out _; (with_reducible repeat (first | refine blk_drewN ?_ _ | refine blk_drew ?_ | refine blk_alloc ?_ _)); exact BK132.out) hb); have n2_ := Aside0.mk (blk_below (g := gb133) (o := .cells #[.int .i64 0, .int .i64 0, .string (⟨#[]⟩ : ByteArray)] 32 (0, 0)) (by (with_reducible repeat (first | refine blk_drewN ?_ _ | refine blk_drew ?_ | refine blk_alloc ?_ _)); refine blk_far ?_ NB133_132.out _; (with_reducible repeat (first | refine blk_drewN ?_ _ | refine blk_drew ?_ | refine blk_alloc ?_ _)); refine blk_far ?_ NB133_132.out _; (with_reducible repeat (first | refine blk_drewN ?_ _ | refine blk_drew ?_ | refine blk_alloc ?_ _)); refine blk_far ?_ NB133_132.out _; (with_reducible repeat (first | refine blk_drewN ?_ _ | refine blk_drew ?_ | refine blk_alloc ?_ _)); refine blk_far ?_ NB133_131.out _; (with_reducible repeat (first | refine blk_drewN ?_ _ | refine blk_drew ?_ | refine blk_alloc ?_ _)); refine blk_far ?_ NB133_131.out _; (with_reducible repeat (first | refine blk_drewN ?_ _ | refine blk_drew ?_ | refine blk_alloc ?_ _)); refine blk_far ?_ NB133_131.out _; (with_reducible repeat (first | refine blk_drewN ?_ _ | refine blk_drew ?_ | refine blk_alloc ?_ _)); exact BK133.out) hb); have n3_ := Aside0.mk (below_step (by repeat (first | (with_reducible first | exact HB.out | apply below_alloc | apply pw_below_drewN | apply below_drew1 | refine below_set ?_ GE131.out | refine below_set ?_ GE132.out | refine below_set ?_ GE133.out) | exact HB.out)) hb); clear BK131; clear BK132; clear BK133; clear HB; have BK131 := n0_; have BK132 := n1_; have BK133 := n2_; have HB := n3_; clear n0_ n1_ n2_ n3_; (try clear hb); (try clear hb2); (try clear hk); (try clear hi); have hcz54_0 : w53.cell? ⟨gb133, 0, none⟩ = some (.int .i64 0) := (blk_cell BK133.out 0).trans rfl; have hcz54_1 : w53.cell? ⟨gb133, 1, none⟩ = some (.int .i64 0) := (blk_cell BK133.out 1).trans rfl; have hcz54_2 : w53.cell? ⟨gb133, 2, none⟩ = some (.string (⟨#[]⟩ : ByteArray)) := (blk_cell BK133.out 2).trans rfl; have hfz54_0 := blk_frozen BK133.out 0; have hfz54_1 := blk_frozen BK133.out 1; have hfz54_2 := blk_frozen BK133.out 2))
              refine bodyPost_ret (results_ct rfl _ _ gb133 32 #[.int .i64 0, .int .i64 0, .string (⟨#[]⟩ : ByteArray)] (0, 0) _ rfl (by (with_reducible repeat (first | refine blk_drewN ?_ _ | refine blk_drew ?_ | refine blk_alloc ?_ _)); refine blk_put (cs := #[.int .i64 0, .int .i64 0, .string (⟨#[]⟩ : ByteArray)]) ?_ 2 _ rfl; (with_reducible repeat (first | refine blk_drewN ?_ _ | refine blk_drew ?_ | refine blk_alloc ?_ _)); refine blk_put (cs := #[.int .i64 0, .int .i64 0, .string (⟨#[]⟩ : ByteArray)]) ?_ 1 _ rfl; (with_reducible repeat (first | refine blk_drewN ?_ _ | refine blk_drew ?_ | refine blk_alloc ?_ _)); refine blk_put (cs := #[.int .i64 0, .int .i64 0, .string (⟨#[]⟩ : ByteArray)]) ?_ 0 _ rfl; (with_reducible repeat (first | refine blk_drewN ?_ _ | refine blk_drew ?_ | refine blk_alloc ?_ _)); exact BK133.out) Tryd.underlying32 rfl (by kernel_rfl)) rfl ?_
              exact ⟨by first | rfl | (simp [errW_none, errW_some] <;> rfl) | (simp [*, errW_none, errW_some] <;> rfl), by repeat (first | (with_reducible first | exact HB.out | apply below_alloc | apply pw_below_drewN | apply below_drew1 | refine below_set ?_ GE131.out | refine below_set ?_ GE132.out | refine below_set ?_ GE133.out) | exact HB.out)⟩
          · rw [if_neg c36] at H
            have c36b0 : (t134 == 15) = false := beq_eq_false_iff_ne.mpr c36
            have c36b1 : (t134 != 15) = true := bne_iff_ne.mpr c36
            by_cases c55 : t134 = 14
            · rw [if_pos c55] at H
              have c55b0 : (t134 == 14) = true := beq_iff_eq.mpr c55
              have c55b1 : (t134 != 14) = false := bne_eq_false_iff_eq.mpr c55
              clear c55
              replace H := Option.bind_eq_some_iff.mp H
              obtain ⟨⟨t146, t147⟩, A560, H⟩ := H
              replace H : (if t147 = true then ((value_OfBool.f (t146 != t136)).bind fun bt148 => (some (bt148.1, bt148.2.1, bt148.2.2, 0))) else (some (0, 0, (⟨#[]⟩ : ByteArray), 18))) = some (r1, r2, r3, r4) := H
              have A56 := Aside0.mk A560
              clear A560
              by_cases c57 : t147 = true
              · subst c57
                have H1 : ((value_OfBool.f (t146 != t136)).bind fun bt148 => (some (bt148.1, bt148.2.1, bt148.2.2, 0))) = some (r1, r2, r3, r4) := by rw [if_pos rfl] at H; exact H
                clear H
                have H := H1
                clear H1
                replace H := Option.bind_eq_some_iff.mp H
                obtain ⟨⟨t148, t149, t150⟩, A580, H⟩ := H
                replace H : (some (t148, t149, t150, 0)) = some (r1, r2, r3, r4) := H
                have A58 := Aside0.mk A580
                clear A580
                simp only [Option.some.injEq, Prod.mk.injEq] at H
                obtain ⟨rfl, rfl, rfl, rfl⟩ := H
                have hnb59 := NB131_132.out
                have hnc59 := NB132_131.out
                have hnb60 := NB131_133.out
                have hnc60 := NB133_131.out
                have hcz61_0 : wc.cell? ⟨gb131, 0, none⟩ = some (.int .i64 x132000_5) := (blk_cell BK131.out 0).trans rfl
                have hcz61_1 : wc.cell? ⟨gb131, 1, none⟩ = some (.int .i64 x132001_5) := (blk_cell BK131.out 1).trans rfl
                have hcz61_2 : wc.cell? ⟨gb131, 2, none⟩ = some (.string x132002_5) := (blk_cell BK131.out 2).trans rfl
                have hfz61_0 := blk_frozen BK131.out 0
                have hfz61_1 := blk_frozen BK131.out 1
                have hfz61_2 := blk_frozen BK131.out 2
                have hnb62 := NB132_133.out
                have hnc62 := NB133_132.out
                have hcz63_0 : wc.cell? ⟨gb132, 0, none⟩ = some (.int .i64 x133000_5) := (blk_cell BK132.out 0).trans rfl
                have hcz63_1 : wc.cell? ⟨gb132, 1, none⟩ = some (.int .i64 x133001_5) := (blk_cell BK132.out 1).trans rfl
                have hcz63_2 : wc.cell? ⟨gb132, 2, none⟩ = some (.string x133002_5) := (blk_cell BK132.out 2).trans rfl
                have hfz63_0 := blk_frozen BK132.out 0
                have hfz63_1 := blk_frozen BK132.out 1
                have hfz63_2 := blk_frozen BK132.out 2
                go_wp2_with (first | ((with_reducible refine gate_callee (f := 71) rfl ?_); refine goesL_ (some 48) rfl rfl Tryd.func71 (by kernel_rfl) rfl #[.agg #[.int .i64 x132000_5, .int .i64 x132001_5, .string x132002_5], .agg #[.int .i64 x133000_5, .int .i64 x133001_5, .string x133002_5]] rfl (by (try simp only [List.map_toArray, List.map_cons, List.map_nil]); first | done | rfl | (simp only [List.length_drop, List.length_take]; rfl)) ?_; (with_reducible refine (value_Less.calls x132000_5 x132001_5 x132002_5 x133000_5 x133001_5 x133002_5 t146 true _ A56.out).mono ?_); rintro e w64 ⟨rfl, hb⟩; refine ⟨_, rfl, ?_⟩; have n0_ := Aside0.mk (blk_below (g := gb131) (o := .cells #[.int .i64 x132000_5, .int .i64 x132001_5, .string x132002_5] 32 (0, 0)) (by (with_reducible repeat (first | refine blk_drewN ?_ _ | refine blk_drew ?_ | refine blk_alloc ?_ _)); exact BK131.out) hb); have n1_ := Aside0.mk (blk_below (g := gb132) (o := .cells #[.int .i64 x133000_5, .int .i64 x133001_5, .string x133002_5] 32 (0, 0)) (by (with_reducible repeat (first | refine blk_drewN ?_ _ | refine blk_drew ?_ | refine blk_alloc ?_ _)); exact BK132.out) hb); have n2_ := Aside0.mk (blk_below (g := gb133) (o := .cells #[.int .i64 0, .int .i64 0, .string (⟨#[]⟩ : ByteArray)] 32 (0, 0)) (by (with_reducible repeat (first | refine blk_drewN ?_ _ | refine blk_drew ?_ | refine blk_alloc ?_ _)); exact BK133.out) hb); have n3_ := Aside0.mk (below_step (by repeat (first | (with_reducible first | exact HB.out | apply below_alloc | apply pw_below_drewN | apply below_drew1 | refine below_set ?_ GE131.out | refine below_set ?_ GE132.out | refine below_set ?_ GE133.out) | exact HB.out)) hb); clear BK131; clear BK132; clear BK133; clear HB; have BK131 := n0_; have BK132 := n1_; have BK133 := n2_; have HB := n3_; clear n0_ n1_ n2_ n3_; (try clear hb); (try clear hb2); (try clear hk); (try clear hi)) | ((with_reducible refine gate_callee (f := 49) rfl ?_); refine goesL_ (some 71) rfl rfl Tryd.func49 (by kernel_rfl) rfl #[.bool (t146 != t136)] rfl (by (try simp only [List.map_toArray, List.map_cons, List.map_nil]); first | done | rfl | (simp only [List.length_drop, List.length_take]; rfl)) ?_; (with_reducible refine (value_OfBool.calls (t146 != t136) t148 t149 t150 _ A58.out).mono ?_); rintro e w65 ⟨rfl, hb⟩; refine ⟨_, rfl, ?_⟩; have n0_ := Aside0.mk (blk_below (g := gb131) (o := .cells #[.int .i64 x132000_5, .int .i64 x132001_5, .string x132002_5] 32 (0, 0)) (by (with_reducible repeat (first | refine blk_drewN ?_ _ | refine blk_drew ?_ | refine blk_alloc ?_ _)); exact BK131.out) hb); have n1_ := Aside0.mk (blk_below (g := gb132) (o := .cells #[.int .i64 x133000_5, .int .i64 x133001_5, .string x133002_5] 32 (0, 0)) (by (with_reducible repeat (first | refine blk_drewN ?_ _ | refine blk_drew ?_ | refine blk_alloc ?_ _)); exact BK132.out) hb); have n2_ := Aside0.mk (blk_below (g := gb133) (o := .cells #[.int .i64 0, .int .i64 0, .string (⟨#[]⟩ : ByteArray)] 32 (0, 0)) (by (with_reducible repeat (first | refine blk_drewN ?_ _ | refine blk_drew ?_ | refine blk_alloc ?_ _)); exact BK133.out) hb); have n3_ := Aside0.mk (below_step (by repeat (first | (with_reducible first | exact HB.out | apply below_alloc | apply pw_below_drewN | apply below_drew1 | refine below_set ?_ GE131.out | refine below_set ?_ GE132.out | refine below_set ?_ GE133.out) | exact HB.out)) hb); clear BK131; clear BK132; clear BK133; clear HB; have BK131 := n0_; have BK132 := n1_; have BK133 := n2_; have HB := n3_; clear n0_ n1_ n2_ n3_; (try clear hb); (try clear hb2); (try clear hk); (try clear hi); have hcz66_0 : w65.cell? ⟨gb133, 0, none⟩ = some (.int .i64 0) := (blk_cell BK133.out 0).trans rfl; have hcz66_1 : w65.cell? ⟨gb133, 1, none⟩ = some (.int .i64 0) := (blk_cell BK133.out 1).trans rfl; have hcz66_2 : w65.cell? ⟨gb133, 2, none⟩ = some (.string (⟨#[]⟩ : ByteArray)) := (blk_cell BK133.out 2).trans rfl; have hfz66_0 := blk_frozen BK133.out 0; have hfz66_1 := blk_frozen BK133.out 1; have hfz66_2 := blk_frozen BK133.out 2))
                refine bodyPost_ret (results_ct rfl _ _ gb133 32 #[.int .i64 t148, .int .i64 t149, .string t150] (0, 0) _ rfl (by (with_reducible repeat (first | refine blk_drewN ?_ _ | refine blk_drew ?_ | refine blk_alloc ?_ _)); refine blk_put (cs := #[.int .i64 t148, .int .i64 t149, .string (⟨#[]⟩ : ByteArray)]) ?_ 2 _ rfl; (with_reducible repeat (first | refine blk_drewN ?_ _ | refine blk_drew ?_ | refine blk_alloc ?_ _)); refine blk_put (cs := #[.int .i64 t148, .int .i64 0, .string (⟨#[]⟩ : ByteArray)]) ?_ 1 _ rfl; (with_reducible repeat (first | refine blk_drewN ?_ _ | refine blk_drew ?_ | refine blk_alloc ?_ _)); refine blk_put (cs := #[.int .i64 0, .int .i64 0, .string (⟨#[]⟩ : ByteArray)]) ?_ 0 _ rfl; (with_reducible repeat (first | refine blk_drewN ?_ _ | refine blk_drew ?_ | refine blk_alloc ?_ _)); exact BK133.out) Tryd.underlying32 rfl (by kernel_rfl)) rfl ?_
                exact ⟨by first | rfl | (simp [errW_none, errW_some] <;> rfl) | (simp [*, errW_none, errW_some] <;> rfl), by repeat (first | (with_reducible first | exact HB.out | apply below_alloc | apply pw_below_drewN | apply below_drew1 | refine below_set ?_ GE131.out | refine below_set ?_ GE132.out | refine below_set ?_ GE133.out) | exact HB.out)⟩
              · replace c57 := Bool.eq_false_iff.mpr c57
                subst c57
                have H1 : (some (0, 0, (⟨#[]⟩ : ByteArray), 18)) = some (r1, r2, r3, r4) := by rw [if_neg (show ¬ (false = true) by decide)] at H; exact H
                clear H
                have H := H1
                clear H1
                simp only [Option.some.injEq, Prod.mk.injEq] at H
                obtain ⟨rfl, rfl, rfl, rfl⟩ := H
                have hnb67 := NB131_132.out
                have hnc67 := NB132_131.out
                have hnb68 := NB131_133.out
                have hnc68 := NB133_131.out
                have hcz69_0 : wc.cell? ⟨gb131, 0, none⟩ = some (.int .i64 x132000_5) := (blk_cell BK131.out 0).trans rfl
                have hcz69_1 : wc.cell? ⟨gb131, 1, none⟩ = some (.int .i64 x132001_5) := (blk_cell BK131.out 1).trans rfl
                have hcz69_2 : wc.cell? ⟨gb131, 2, none⟩ = some (.string x132002_5) := (blk_cell BK131.out 2).trans rfl
                have hfz69_0 := blk_frozen BK131.out 0
                have hfz69_1 := blk_frozen BK131.out 1
                have hfz69_2 := blk_frozen BK131.out 2
                have hnb70 := NB132_133.out
                have hnc70 := NB133_132.out
                have hcz71_0 : wc.cell? ⟨gb132, 0, none⟩ = some (.int .i64 x133000_5) := (blk_cell BK132.out 0).trans rfl
                have hcz71_1 : wc.cell? ⟨gb132, 1, none⟩ = some (.int .i64 x133001_5) := (blk_cell BK132.out 1).trans rfl
                have hcz71_2 : wc.cell? ⟨gb132, 2, none⟩ = some (.string x133002_5) := (blk_cell BK132.out 2).trans rfl
                have hfz71_0 := blk_frozen BK132.out 0
                have hfz71_1 := blk_frozen BK132.out 1
                have hfz71_2 := blk_frozen BK132.out 2
                go_wp2_with (first | ((with_reducible refine gate_callee (f := 71) rfl ?_); refine goesL_ (some 48) rfl rfl Tryd.func71 (by kernel_rfl) rfl #[.agg #[.int .i64 x132000_5, .int .i64 x132001_5, .string x132002_5], .agg #[.int .i64 x133000_5, .int .i64 x133001_5, .string x133002_5]] rfl (by (try simp only [List.map_toArray, List.map_cons, List.map_nil]); first | done | rfl | (simp only [List.length_drop, List.length_take]; rfl)) ?_; (with_reducible refine (value_Less.calls x132000_5 x132001_5 x132002_5 x133000_5 x133001_5 x133002_5 t146 false _ A56.out).mono ?_); rintro e w72 ⟨rfl, hb⟩; refine ⟨_, rfl, ?_⟩; have n0_ := Aside0.mk (blk_below (g := gb131) (o := .cells #[.int .i64 x132000_5, .int .i64 x132001_5, .string x132002_5] 32 (0, 0)) (by (with_reducible repeat (first | refine blk_drewN ?_ _ | refine blk_drew ?_ | refine blk_alloc ?_ _)); exact BK131.out) hb); have n1_ := Aside0.mk (blk_below (g := gb132) (o := .cells #[.int .i64 x133000_5, .int .i64 x133001_5, .string x133002_5] 32 (0, 0)) (by (with_reducible repeat (first | refine blk_drewN ?_ _ | refine blk_drew ?_ | refine blk_alloc ?_ _)); exact BK132.out) hb); have n2_ := Aside0.mk (blk_below (g := gb133) (o := .cells #[.int .i64 0, .int .i64 0, .string (⟨#[]⟩ : ByteArray)] 32 (0, 0)) (by (with_reducible repeat (first | refine blk_drewN ?_ _ | refine blk_drew ?_ | refine blk_alloc ?_ _)); exact BK133.out) hb); have n3_ := Aside0.mk (below_step (by repeat (first | (with_reducible first | exact HB.out | apply below_alloc | apply pw_below_drewN | apply below_drew1 | refine below_set ?_ GE131.out | refine below_set ?_ GE132.out | refine below_set ?_ GE133.out) | exact HB.out)) hb); clear BK131; clear BK132; clear BK133; clear HB; have BK131 := n0_; have BK132 := n1_; have BK133 := n2_; have HB := n3_; clear n0_ n1_ n2_ n3_; (try clear hb); (try clear hb2); (try clear hk); (try clear hi); have hcz73_0 : w72.cell? ⟨gb133, 0, none⟩ = some (.int .i64 0) := (blk_cell BK133.out 0).trans rfl; have hcz73_1 : w72.cell? ⟨gb133, 1, none⟩ = some (.int .i64 0) := (blk_cell BK133.out 1).trans rfl; have hcz73_2 : w72.cell? ⟨gb133, 2, none⟩ = some (.string (⟨#[]⟩ : ByteArray)) := (blk_cell BK133.out 2).trans rfl; have hfz73_0 := blk_frozen BK133.out 0; have hfz73_1 := blk_frozen BK133.out 1; have hfz73_2 := blk_frozen BK133.out 2))
                refine bodyPost_ret (results_ct rfl _ _ gb133 32 #[.int .i64 0, .int .i64 0, .string (⟨#[]⟩ : ByteArray)] (0, 0) _ rfl (by (with_reducible repeat (first | refine blk_drewN ?_ _ | refine blk_drew ?_ | refine blk_alloc ?_ _)); refine blk_put (cs := #[.int .i64 0, .int .i64 0, .string (⟨#[]⟩ : ByteArray)]) ?_ 2 _ rfl; (with_reducible repeat (first | refine blk_drewN ?_ _ | refine blk_drew ?_ | refine blk_alloc ?_ _)); refine blk_put (cs := #[.int .i64 0, .int .i64 0, .string (⟨#[]⟩ : ByteArray)]) ?_ 1 _ rfl; (with_reducible repeat (first | refine blk_drewN ?_ _ | refine blk_drew ?_ | refine blk_alloc ?_ _)); refine blk_put (cs := #[.int .i64 0, .int .i64 0, .string (⟨#[]⟩ : ByteArray)]) ?_ 0 _ rfl; (with_reducible repeat (first | refine blk_drewN ?_ _ | refine blk_drew ?_ | refine blk_alloc ?_ _)); exact BK133.out) Tryd.underlying32 rfl (by kernel_rfl)) rfl ?_
                exact ⟨by first | rfl | (simp [errW_none, errW_some] <;> rfl) | (simp [*, errW_none, errW_some] <;> rfl), by repeat (first | (with_reducible first | exact HB.out | apply below_alloc | apply pw_below_drewN | apply below_drew1 | refine below_set ?_ GE131.out | refine below_set ?_ GE132.out | refine below_set ?_ GE133.out) | exact HB.out)⟩
            · rw [if_neg c55] at H
              have c55b0 : (t134 == 14) = false := beq_eq_false_iff_ne.mpr c55
              have c55b1 : (t134 != 14) = true := bne_iff_ne.mpr c55
              have HC74 := Aside0.mk H
              clear H
              go_upto_region 18 with (fail)
              go_cut [60] (fun v60 wc => ∃ (kq : Nat) (x60_73 : Bool), v60 = .bool x60_73 ∧ Aside0 (oper_Do.j1 kq t134 x60_73 x132000_5 x132001_5 x132002_5 x133000_5 x133001_5 x133002_5 = some (r1, r2, r3, r4)) ∧ Aside0 (kq ≤ kj5) ∧ Aside0 (wc.heap[gb131]? = some (.cells #[.int .i64 x132000_5, .int .i64 x132001_5, .string x132002_5] 32 (0, 0))) ∧ Aside0 (wc.heap[gb132]? = some (.cells #[.int .i64 x133000_5, .int .i64 x133001_5, .string x133002_5] 32 (0, 0))) ∧ Aside0 (wc.heap[gb133]? = some (.cells #[.int .i64 0, .int .i64 0, .string (⟨#[]⟩ : ByteArray)] 32 (0, 0))) ∧ Aside0 (Below w.heap.size w wc))
              case first =>
                have H := HC74.out
                clear HC74
                by_cases c75 : t134 < 1
                · rw [if_pos c75] at H
                  have c75b0 : decide (t134 < 1) = true := decide_eq_true c75
                  clear c75
                  (first | rw [c75b0] | (simp only [i64_w, i32_w]; rw [c75b0]) | skip)
                  have H' := Aside0.mk H
                  clear H
                  go_wp2
                  go_meet
                  case rel => exact ⟨_, (true), (by first | rfl | (simp; done) | (simp [*]; done) | (simp; exact TabW.bclose _ _) | (simp; exact TabW.bclose2 _)), H', ⟨by have := HJ5.out; first | omega | exact Nat.le_refl _⟩, ⟨by (with_reducible repeat (first | refine blk_drewN ?_ _ | refine blk_drew ?_ | refine blk_alloc ?_ _)); exact BK131.out⟩, ⟨by (with_reducible repeat (first | refine blk_drewN ?_ _ | refine blk_drew ?_ | refine blk_alloc ?_ _)); exact BK132.out⟩, ⟨by (with_reducible repeat (first | refine blk_drewN ?_ _ | refine blk_drew ?_ | refine blk_alloc ?_ _)); exact BK133.out⟩, ⟨by repeat (first | (with_reducible first | exact HB.out | apply below_alloc | apply pw_below_drewN | apply below_drew1 | refine below_set ?_ GE131.out | refine below_set ?_ GE132.out | refine below_set ?_ GE133.out) | exact HB.out)⟩⟩
                · rw [if_neg c75] at H
                  have c75b0 : decide (t134 < 1) = false := decide_eq_false c75
                  clear c75
                  (first | rw [c75b0] | (simp only [i64_w, i32_w]; rw [c75b0]) | skip)
                  have H' := Aside0.mk H
                  clear H
                  go_wp2
                  go_meet
                  case rel => exact ⟨_, (decide (t134 > 10)), (by first | rfl | (simp; done) | (simp [*]; done) | (simp; exact TabW.bclose _ _) | (simp; exact TabW.bclose2 _)), H', ⟨by have := HJ5.out; first | omega | exact Nat.le_refl _⟩, ⟨by (with_reducible repeat (first | refine blk_drewN ?_ _ | refine blk_drew ?_ | refine blk_alloc ?_ _)); exact BK131.out⟩, ⟨by (with_reducible repeat (first | refine blk_drewN ?_ _ | refine blk_drew ?_ | refine blk_alloc ?_ _)); exact BK132.out⟩, ⟨by (with_reducible repeat (first | refine blk_drewN ?_ _ | refine blk_drew ?_ | refine blk_alloc ?_ _)); exact BK133.out⟩, ⟨by repeat (first | (with_reducible first | exact HB.out | apply below_alloc | apply pw_below_drewN | apply below_drew1 | refine below_set ?_ GE131.out | refine below_set ?_ GE132.out | refine below_set ?_ GE133.out) | exact HB.out)⟩⟩
              case rest =>
                clear HC74
                try clear c1
                try clear c2
                try clear p2
                try clear c3
                try clear c4
                try clear c5
                try clear c6
                try clear c7
                try clear c10
                try clear c11
                try clear c12
                try clear c14
                try clear c16
                try clear c16b0
                try clear c16b1
                try clear c18
                try clear c19
                try clear c21
                try clear c25
                try clear c25b0
                try clear c25b1
                try clear c28
                try clear c29
                try clear c31
                try clear c36
                try clear c36b0
                try clear c36b1
                try clear c38
                try clear c40
                try clear c41
                try clear c43
                try clear c46
                try clear c48
                try clear c49
                try clear c51
                try clear c55
                try clear c55b0
                try clear c55b1
                try clear c57
                try clear c59
                try clear c60
                try clear c62
                try clear c67
                try clear c68
                try clear c69
                try clear c70
                try clear c71
                try clear c75
                try clear c75b0
                try clear hcz13_0
                try clear hcz13_1
                try clear hcz13_2
                try clear hcz15_0
                try clear hcz15_1
                try clear hcz15_2
                try clear hcz20_0
                try clear hcz20_1
                try clear hcz20_2
                try clear hcz22_0
                try clear hcz22_1
                try clear hcz22_2
                try clear hcz24_0
                try clear hcz24_1
                try clear hcz24_2
                try clear hcz30_0
                try clear hcz30_1
                try clear hcz30_2
                try clear hcz32_0
                try clear hcz32_1
                try clear hcz32_2
                try clear hcz35_0
                try clear hcz35_1
                try clear hcz35_2
                try clear hcz42_0
                try clear hcz42_1
                try clear hcz42_2
                try clear hcz44_0
                try clear hcz44_1
                try clear hcz44_2
                try clear hcz47_0
                try clear hcz47_1
                try clear hcz47_2
                try clear hcz50_0
                try clear hcz50_1
                try clear hcz50_2
                try clear hcz52_0
                try clear hcz52_1
                try clear hcz52_2
                try clear hcz54_0
                try clear hcz54_1
                try clear hcz54_2
                try clear hcz61_0
                try clear hcz61_1
                try clear hcz61_2
                try clear hcz63_0
                try clear hcz63_1
                try clear hcz63_2
                try clear hcz66_0
                try clear hcz66_1
                try clear hcz66_2
                try clear hcz69_0
                try clear hcz69_1
                try clear hcz69_2
                try clear hcz71_0
                try clear hcz71_1
                try clear hcz71_2
                try clear hcz73_0
                try clear hcz73_1
                try clear hcz73_2
                try clear hfz13_0
                try clear hfz13_1
                try clear hfz13_2
                try clear hfz15_0
                try clear hfz15_1
                try clear hfz15_2
                try clear hfz20_0
                try clear hfz20_1
                try clear hfz20_2
                try clear hfz22_0
                try clear hfz22_1
                try clear hfz22_2
                try clear hfz24_0
                try clear hfz24_1
                try clear hfz24_2
                try clear hfz30_0
                try clear hfz30_1
                try clear hfz30_2
                try clear hfz32_0
                try clear hfz32_1
                try clear hfz32_2
                try clear hfz35_0
                try clear hfz35_1
                try clear hfz35_2
                try clear hfz42_0
                try clear hfz42_1
                try clear hfz42_2
                try clear hfz44_0
                try clear hfz44_1
                try clear hfz44_2
                try clear hfz47_0
                try clear hfz47_1
                try clear hfz47_2
                try clear hfz50_0
                try clear hfz50_1
                try clear hfz50_2
                try clear hfz52_0
                try clear hfz52_1
                try clear hfz52_2
                try clear hfz54_0
                try clear hfz54_1
                try clear hfz54_2
                try clear hfz61_0
                try clear hfz61_1
                try clear hfz61_2
                try clear hfz63_0
                try clear hfz63_1
                try clear hfz63_2
                try clear hfz66_0
                try clear hfz66_1
                try clear hfz66_2
                try clear hfz69_0
                try clear hfz69_1
                try clear hfz69_2
                try clear hfz71_0
                try clear hfz71_1
                try clear hfz71_2
                try clear hfz73_0
                try clear hfz73_1
                try clear hfz73_2
                try clear p2
                obtain ⟨kq, x60_73, rfl, HA, HJ73, BK131, BK132, BK133, HB⟩ := hcut
                cases kq with
                | zero => exact absurd HA.out (by simp [oper_Do.j1])
                | succ kj73 =>
                  have H := HA.out
                  clear HA
                  simp only [oper_Do.j1] at H
                  by_cases c76 : x60_73 = true
                  · subst c76
                    have H1 : (some (0, 0, (⟨#[]⟩ : ByteArray), 1)) = some (r1, r2, r3, r4) := by rw [if_pos rfl] at H; exact H
                    clear H
                    have H := H1
                    clear H1
                    simp only [Option.some.injEq, Prod.mk.injEq] at H
                    obtain ⟨rfl, rfl, rfl, rfl⟩ := H
                    have hnb77 := NB133_131.out
                    have hnc77 := NB131_133.out
                    have hnb78 := NB133_132.out
                    have hnc78 := NB132_133.out
                    have hcz79_0 : wc.cell? ⟨gb133, 0, none⟩ = some (.int .i64 0) := (blk_cell BK133.out 0).trans rfl
                    have hcz79_1 : wc.cell? ⟨gb133, 1, none⟩ = some (.int .i64 0) := (blk_cell BK133.out 1).trans rfl
                    have hcz79_2 : wc.cell? ⟨gb133, 2, none⟩ = some (.string (⟨#[]⟩ : ByteArray)) := (blk_cell BK133.out 2).trans rfl
                    have hfz79_0 := blk_frozen BK133.out 0
                    have hfz79_1 := blk_frozen BK133.out 1
                    have hfz79_2 := blk_frozen BK133.out 2
                    go_wp2
                    refine bodyPost_ret (results_ct rfl _ _ gb133 32 #[.int .i64 0, .int .i64 0, .string (⟨#[]⟩ : ByteArray)] (0, 0) _ rfl (by (with_reducible repeat (first | refine blk_drewN ?_ _ | refine blk_drew ?_ | refine blk_alloc ?_ _)); refine blk_put (cs := #[.int .i64 0, .int .i64 0, .string (⟨#[]⟩ : ByteArray)]) ?_ 2 _ rfl; (with_reducible repeat (first | refine blk_drewN ?_ _ | refine blk_drew ?_ | refine blk_alloc ?_ _)); refine blk_put (cs := #[.int .i64 0, .int .i64 0, .string (⟨#[]⟩ : ByteArray)]) ?_ 1 _ rfl; (with_reducible repeat (first | refine blk_drewN ?_ _ | refine blk_drew ?_ | refine blk_alloc ?_ _)); refine blk_put (cs := #[.int .i64 0, .int .i64 0, .string (⟨#[]⟩ : ByteArray)]) ?_ 0 _ rfl; (with_reducible repeat (first | refine blk_drewN ?_ _ | refine blk_drew ?_ | refine blk_alloc ?_ _)); exact BK133.out) Tryd.underlying32 rfl (by kernel_rfl)) rfl ?_
                    exact ⟨by first | rfl | (simp [errW_none, errW_some] <;> rfl) | (simp [*, errW_none, errW_some] <;> rfl), by repeat (first | (with_reducible first | exact HB.out | apply below_alloc | apply pw_below_drewN | apply below_drew1 | refine below_set ?_ GE131.out | refine below_set ?_ GE132.out | refine below_set ?_ GE133.out) | exact HB.out)⟩
                  · replace c76 := Bool.eq_false_iff.mpr c76
                    subst c76
                    have H1 : ((oper_arith.f t134 x132000_5 x132001_5 x132002_5 x133000_5 x133001_5 x133002_5).bind fun bt155 => (some (bt155.1, bt155.2.1, bt155.2.2.1, bt155.2.2.2))) = some (r1, r2, r3, r4) := by rw [if_neg (show ¬ (false = true) by decide)] at H; exact H
                    clear H
                    have H := H1
                    clear H1
                    replace H := Option.bind_eq_some_iff.mp H
                    obtain ⟨⟨t155, t156, t157, t158⟩, A800, H⟩ := H
                    replace H : (some (t155, t156, t157, t158)) = some (r1, r2, r3, r4) := H
                    have A80 := Aside0.mk A800
                    clear A800
                    simp only [Option.some.injEq, Prod.mk.injEq] at H
                    obtain ⟨rfl, rfl, rfl, rfl⟩ := H
                    have hnb81 := NB131_132.out
                    have hnc81 := NB132_131.out
                    have hnb82 := NB131_133.out
                    have hnc82 := NB133_131.out
                    have hcz83_0 : wc.cell? ⟨gb131, 0, none⟩ = some (.int .i64 x132000_5) := (blk_cell BK131.out 0).trans rfl
                    have hcz83_1 : wc.cell? ⟨gb131, 1, none⟩ = some (.int .i64 x132001_5) := (blk_cell BK131.out 1).trans rfl
                    have hcz83_2 : wc.cell? ⟨gb131, 2, none⟩ = some (.string x132002_5) := (blk_cell BK131.out 2).trans rfl
                    have hfz83_0 := blk_frozen BK131.out 0
                    have hfz83_1 := blk_frozen BK131.out 1
                    have hfz83_2 := blk_frozen BK131.out 2
                    have hnb84 := NB132_133.out
                    have hnc84 := NB133_132.out
                    have hcz85_0 : wc.cell? ⟨gb132, 0, none⟩ = some (.int .i64 x133000_5) := (blk_cell BK132.out 0).trans rfl
                    have hcz85_1 : wc.cell? ⟨gb132, 1, none⟩ = some (.int .i64 x133001_5) := (blk_cell BK132.out 1).trans rfl
                    have hcz85_2 : wc.cell? ⟨gb132, 2, none⟩ = some (.string x133002_5) := (blk_cell BK132.out 2).trans rfl
                    have hfz85_0 := blk_frozen BK132.out 0
                    have hfz85_1 := blk_frozen BK132.out 1
                    have hfz85_2 := blk_frozen BK132.out 2
                    go_wp2_with (first | ((with_reducible refine gate_callee (f := 72) rfl ?_); refine goesL_ (some 65) rfl rfl Tryd.func72 (by kernel_rfl) rfl #[.int .i64 t134, .agg #[.int .i64 x132000_5, .int .i64 x132001_5, .string x132002_5], .agg #[.int .i64 x133000_5, .int .i64 x133001_5, .string x133002_5]] rfl (by (try simp only [List.map_toArray, List.map_cons, List.map_nil]); first | done | rfl | (simp only [List.length_drop, List.length_take]; rfl)) ?_; (with_reducible refine (oper_arith.calls t134 x132000_5 x132001_5 x132002_5 x133000_5 x133001_5 x133002_5 t155 t156 t157 t158 _ (HTT.out.on (by repeat (first | (with_reducible first | exact HB.out | apply below_alloc | apply pw_below_drewN | apply below_drew1 | refine below_set ?_ GE131.out | refine below_set ?_ GE132.out | refine below_set ?_ GE133.out) | exact HB.out))) A80.out).mono ?_); rintro e w86 ⟨rfl, hb⟩; refine ⟨_, rfl, ?_⟩; have n0_ := Aside0.mk (blk_below (g := gb131) (o := .cells #[.int .i64 x132000_5, .int .i64 x132001_5, .string x132002_5] 32 (0, 0)) (by (with_reducible repeat (first | refine blk_drewN ?_ _ | refine blk_drew ?_ | refine blk_alloc ?_ _)); exact BK131.out) hb); have n1_ := Aside0.mk (blk_below (g := gb132) (o := .cells #[.int .i64 x133000_5, .int .i64 x133001_5, .string x133002_5] 32 (0, 0)) (by (with_reducible repeat (first | refine blk_drewN ?_ _ | refine blk_drew ?_ | refine blk_alloc ?_ _)); exact BK132.out) hb); have n2_ := Aside0.mk (blk_below (g := gb133) (o := .cells #[.int .i64 0, .int .i64 0, .string (⟨#[]⟩ : ByteArray)] 32 (0, 0)) (by (with_reducible repeat (first | refine blk_drewN ?_ _ | refine blk_drew ?_ | refine blk_alloc ?_ _)); exact BK133.out) hb); have n3_ := Aside0.mk (below_step (by repeat (first | (with_reducible first | exact HB.out | apply below_alloc | apply pw_below_drewN | apply below_drew1 | refine below_set ?_ GE131.out | refine below_set ?_ GE132.out | refine below_set ?_ GE133.out) | exact HB.out)) hb); clear BK131; clear BK132; clear BK133; clear HB; have BK131 := n0_; have BK132 := n1_; have BK133 := n2_; have HB := n3_; clear n0_ n1_ n2_ n3_; (try clear hb); (try clear hb2); (try clear hk); (try clear hi); have hcz87_0 : w86.cell? ⟨gb133, 0, none⟩ = some (.int .i64 0) := (blk_cell BK133.out 0).trans rfl; have hcz87_1 : w86.cell? ⟨gb133, 1, none⟩ = some (.int .i64 0) := (blk_cell BK133.out 1).trans rfl; have hcz87_2 : w86.cell? ⟨gb133, 2, none⟩ = some (.string (⟨#[]⟩ : ByteArray)) := (blk_cell BK133.out 2).trans rfl; have hfz87_0 := blk_frozen BK133.out 0; have hfz87_1 := blk_frozen BK133.out 1; have hfz87_2 := blk_frozen BK133.out 2))
                    refine bodyPost_ret (results_ct rfl _ _ gb133 32 #[.int .i64 t155, .int .i64 t156, .string t157] (0, 0) _ rfl (by (with_reducible repeat (first | refine blk_drewN ?_ _ | refine blk_drew ?_ | refine blk_alloc ?_ _)); refine blk_put (cs := #[.int .i64 t155, .int .i64 t156, .string (⟨#[]⟩ : ByteArray)]) ?_ 2 _ rfl; (with_reducible repeat (first | refine blk_drewN ?_ _ | refine blk_drew ?_ | refine blk_alloc ?_ _)); refine blk_put (cs := #[.int .i64 t155, .int .i64 0, .string (⟨#[]⟩ : ByteArray)]) ?_ 1 _ rfl; (with_reducible repeat (first | refine blk_drewN ?_ _ | refine blk_drew ?_ | refine blk_alloc ?_ _)); refine blk_put (cs := #[.int .i64 0, .int .i64 0, .string (⟨#[]⟩ : ByteArray)]) ?_ 0 _ rfl; (with_reducible repeat (first | refine blk_drewN ?_ _ | refine blk_drew ?_ | refine blk_alloc ?_ _)); exact BK133.out) Tryd.underlying32 rfl (by kernel_rfl)) rfl ?_
                    exact ⟨by first | rfl | (simp [errW_none, errW_some] <;> rfl) | (simp [*, errW_none, errW_some] <;> rfl), by repeat (first | (with_reducible first | exact HB.out | apply below_alloc | apply pw_below_drewN | apply below_drew1 | refine below_set ?_ GE131.out | refine below_set ?_ GE132.out | refine below_set ?_ GE133.out) | exact HB.out)⟩

/-! ### value_Truth: function 47 -/
def value_Truth.f (a0_0 : Int) (a0_1 : Int) (a0_2 : ByteArray) : Option (Bool) := GW.truthF a0_0 a0_1 a0_2
theorem value_Truth.calls (a0_0 : Int) (a0_1 : Int) (a0_2 : ByteArray) (r : Bool) (w : World) (h : value_Truth.f a0_0 a0_1 a0_2 = some r) :
    Calls Tryd.prog 47 #[.agg #[.int .i64 a0_0, .int .i64 a0_1, .string a0_2]] w fun e w' => e = .returned (.bool r) ∧ Below w.heap.size w w' := GW.truth_calls a0_0 a0_1 a0_2 r w h

/-! ### num_One: function 74 -/
def num_One.f (a0 : Int) (a1 : Int) : Option (Int × Int) := GW.numoneF a0 a1
theorem num_One.calls (a0 : Int) (a1 : Int) (r1 : Int) (r2 : Int) (w : World) (h : num_One.f a0 a1 = some (r1, r2)) :
    Calls Tryd.prog 74 #[.int .i64 a0, .int .i64 a1] w fun e w' => e = .returned (.tuple #[.int .i64 r1, .int .i64 r2]) ∧ Below w.heap.size w w' := GW.numone_calls a0 a1 r1 r2 w h

end Go.Proofs.YtpgpmldaggpciaaDoor.PDo
