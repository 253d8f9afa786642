-- printed by a call of the kit's print.py over several functions of this seat (wip/pr.sh)
import Derived.Test.YtbmenmcjlidadaaDoorPAllx0
import Derived.Test.YtbmenmcjlidadaaDoorPAllx1
import Derived.Test.YtbmenmcjlidadaaDoorPAllx2
import Derived.Test.YtbmenmcjlidadaaDoorPAllx3
import Derived.Test.YtbmenmcjlidadaaDoorPAllx4
import Derived.Test.YtbmenmcjlidadaaDoorPAllx5
namespace Go.Proofs.YtbmenmcjlidadaaDoor.PAll
open Go.RowKit Go.Proofs.YtbmenmcjlidadaaDoorW.PrintWords Go.Proofs.YtbmenmcjlidadaaDoorW.PrintLast Go.Proofs.YtbmenmcjlidadaaDoorW.PrintMore
attribute [local go_sem] max2_int min2_int max_two min_two max_three min_three max_four min_four   -- for this text's walks alone
set_option linter.unusedVariables false
set_option linter.unusedSimpArgs false

attribute [local go_sem high] eqA23
/-! ### selkielaw01_ValueAsks: function 3 -/
def selkielaw01_ValueAsks.f (k : Nat) (a0_0 : Int) (a0_1 : Int) (a0_2 : ByteArray) : Option (Bool) := (selkielaw01_alive.f).bind fun t202 => (if t202 = true then ((selkielaw01_great.f k (([(⟨a0_0, a0_1, a0_2⟩ : S23)] : List (S23)))).bind fun t206 => (if t206 = true then (some true) else ((value_Key.f a0_0 a0_1 a0_2).bind fun bt207 => ((selkieref01_Key.f k a0_0 a0_1 a0_2).bind fun bt212 => ((value_Truth.f a0_0 a0_1 a0_2).bind fun t217 => ((selkieref01_Truth.f a0_0 a0_1 a0_2).bind fun t218 => (if (t217 == t218) = true then ((value_Type.f a0_0 a0_1 a0_2).bind fun t219 => ((selkieref01_Type.f a0_0 a0_1 a0_2).bind fun t220 => (if t219.toList = t220.toList then ((value_Print.f a0_0 a0_1 a0_2).bind fun t221 => ((selkieref01_Print.f k a0_0 a0_1 a0_2).bind fun t222 => (if t221.toList = t222.toList then ((value_Own.f a0_0 a0_1 a0_2).bind fun bt223 => ((selkieref01_Own.f k a0_0 a0_1 a0_2).bind fun bt226 => (if (bt223.1 == bt226.1 && (bt223.2.1 == bt226.2.1 && (bt223.2.2.toList == bt226.2.2.toList))) = true then (if (bt207.1 == bt212.1 && (bt207.2.1 == bt212.2.1 && (bt207.2.2.1.toList == bt212.2.2.1.toList))) = true then (some (bt207.2.2.2 == bt212.2.2.2)) else (some false)) else (some false)))) else (some false)))) else (some false)))) else (some false)))))))) else (some false))
theorem selkielaw01_ValueAsks.mono : ∀ a0 a1 a2 k, LeO (selkielaw01_ValueAsks.f k a0 a1 a2) (selkielaw01_ValueAsks.f (k + 1) a0 a1 a2) := by
  intro a0 a1 a2 k
  unfold selkielaw01_ValueAsks.f
  repeat' first
      | (with_reducible exact selkielaw01_great.mono _ _)
      | (with_reducible exact selkieref01_Key.mono _ _ _ _)
      | (with_reducible exact selkieref01_Own.mono _ _ _ _)
      | (with_reducible exact selkieref01_Print.mono _ _ _ _)
      | (with_reducible exact LeO.refl _)
      | (with_reducible exact LeO.none _)
      | (with_reducible refine LeO.ite ?_ ?_)
      | (with_reducible refine LeO.bind ?_ (fun _ => ?_))
      | exact selkielaw01_great.mono _ _
      | exact selkieref01_Key.mono _ _ _ _
      | exact selkieref01_Own.mono _ _ _ _
      | exact selkieref01_Print.mono _ _ _ _
      | exact LeO.none _
      | refine LeO.ite ?_ ?_
      | refine LeO.bind ?_ (fun _ => ?_)
def selkielaw01_ValueAsks.T7 : Bool × List (List Nat × List Nat) := (true, [([], []), ([0], [0]), ([], []), ([2, 1], [2]), ([1, 3], [1, 3]), ([4, 3], [4]), ([5], [5]), ([6, 5, 5], [5, 6]), ([5], [5]), ([8, 7, 5], [5, 8]), ([7, 9, 5], [5, 7, 9]), ([5, 10], [5, 10]), ([11, 9], [11]), ([12], [12]), ([13, 12, 12], [12, 13]), ([12], [12]), ([15, 14, 12], [12, 15]), ([14, 16, 12], [12, 14, 16]), ([12, 17], [12, 17]), ([18, 16], [18]), ([19], [19]), ([20, 19, 19], [19, 20]), ([19], [19]), ([22, 21, 19], [19, 22]), ([21, 23, 19], [19, 21, 23]), ([19, 24], [19, 24]), ([25, 23], [25]), ([26], [26]), ([26], [26]), ([27, 28, 26], [26, 27, 28]), ([26, 29], [26, 29]), ([30, 26], [30]), ([31], [31]), ([31], [31]), ([32, 33, 31], [31, 32, 33]), ([31, 34], [31, 34]), ([35, 31, 0, 1, 2, 3, 4, 5, 6, 7, 8, 9, 10, 11, 12, 13, 14, 15, 16, 17, 18, 19, 20, 21, 22, 23, 24, 25, 26, 27, 28, 29, 30, 31, 32, 33, 34, 35], [35])])
def selkielaw01_ValueAsks.B7 : List Nat := [0, 1, 0, 7, 15, 31, 63, 127, 63, 511, 1023, 2047, 4095, 8191, 16383, 8191, 65535, 131071, 262143, 524287, 1048575, 2097151, 1048575, 8388607, 16777215, 33554431, 67108863, 134217727, 134217727, 536870911, 1073741823, 2147483647, 4294967295, 4294967295, 17179869183, 34359738367, 68719476735]
theorem selkielaw01_ValueAsks.tab7 : rtab .any (opsOf Tryd.f3 7) = selkielaw01_ValueAsks.T7 := by kernel_rfl
theorem selkielaw01_ValueAsks.bits7 : waitsOk selkielaw01_ValueAsks.T7.2 selkielaw01_ValueAsks.B7 = true := by kernel_rfl
set_option maxHeartbeats 8000000 in
set_option maxRecDepth 100000 in
theorem selkielaw01_ValueAsks.calls (k : Nat) (a0_0 : Int) (a0_1 : Int) (a0_2 : ByteArray) (r : Bool) (w : World) (hT : Go.Proofs.YtbmenmcjlidadaaDoor.TabW.Tab w) (hr : r = true) (h : selkielaw01_ValueAsks.f k a0_0 a0_1 a0_2 = some r) :
    Calls Tryd.prog 3 #[.agg #[.int .i64 a0_0, .int .i64 a0_1, .string a0_2]] w fun e w' => e = .returned (.bool r) ∧ Below w.heap.size w w' := by
  have hu23 := Tryd.underlying23
  have HB := Aside0.mk (Below.refl w.heap.size w)
  have HR := Aside0.mk hr
  clear hr
  have HTT := Aside0.mk hT
  clear hT
  have H : ((selkielaw01_alive.f).bind fun t202 => (if t202 = true then ((selkielaw01_great.f k (([(⟨a0_0, a0_1, a0_2⟩ : S23)] : List (S23)))).bind fun t206 => (if t206 = true then (some true) else ((value_Key.f a0_0 a0_1 a0_2).bind fun bt207 => ((selkieref01_Key.f k a0_0 a0_1 a0_2).bind fun bt212 => ((value_Truth.f a0_0 a0_1 a0_2).bind fun t217 => ((selkieref01_Truth.f a0_0 a0_1 a0_2).bind fun t218 => (if (t217 == t218) = true then ((value_Type.f a0_0 a0_1 a0_2).bind fun t219 => ((selkieref01_Type.f a0_0 a0_1 a0_2).bind fun t220 => (if t219.toList = t220.toList then ((value_Print.f a0_0 a0_1 a0_2).bind fun t221 => ((selkieref01_Print.f k a0_0 a0_1 a0_2).bind fun t222 => (if t221.toList = t222.toList then ((value_Own.f a0_0 a0_1 a0_2).bind fun bt223 => ((selkieref01_Own.f k a0_0 a0_1 a0_2).bind fun bt226 => (if (bt223.1 == bt226.1 && (bt223.2.1 == bt226.2.1 && (bt223.2.2.toList == bt226.2.2.toList))) = true then (if (bt207.1 == bt212.1 && (bt207.2.1 == bt212.2.1 && (bt207.2.2.1.toList == bt212.2.2.1.toList))) = true then (some (bt207.2.2.2 == bt212.2.2.2)) else (some false)) else (some false)))) else (some false)))) else (some false)))) else (some false)))))))) else (some false))) = some r := h
  clear h
  replace H := Option.bind_eq_some_iff.mp H
  obtain ⟨t202, A20, H⟩ := H
  replace H : (if t202 = true then ((selkielaw01_great.f k (([(⟨a0_0, a0_1, a0_2⟩ : S23)] : List (S23)))).bind fun t206 => (if t206 = true then (some true) else ((value_Key.f a0_0 a0_1 a0_2).bind fun bt207 => ((selkieref01_Key.f k a0_0 a0_1 a0_2).bind fun bt212 => ((value_Truth.f a0_0 a0_1 a0_2).bind fun t217 => ((selkieref01_Truth.f a0_0 a0_1 a0_2).bind fun t218 => (if (t217 == t218) = true then ((value_Type.f a0_0 a0_1 a0_2).bind fun t219 => ((selkieref01_Type.f a0_0 a0_1 a0_2).bind fun t220 => (if t219.toList = t220.toList then ((value_Print.f a0_0 a0_1 a0_2).bind fun t221 => ((selkieref01_Print.f k a0_0 a0_1 a0_2).bind fun t222 => (if t221.toList = t222.toList then ((value_Own.f a0_0 a0_1 a0_2).bind fun bt223 => ((selkieref01_Own.f k a0_0 a0_1 a0_2).bind fun bt226 => (if (bt223.1 == bt226.1 && (bt223.2.1 == bt226.2.1 && (bt223.2.2.toList == bt226.2.2.toList))) = true then (if (bt207.1 == bt212.1 && (bt207.2.1 == bt212.2.1 && (bt207.2.2.1.toList == bt212.2.2.1.toList))) = true then (some (bt207.2.2.2 == bt212.2.2.2)) else (some false)) else (some false)))) else (some false)))) else (some false)))) else (some false)))))))) else (some false)) = some r := H
  have A2 := Aside0.mk A20
  clear A20
  by_cases c3 : t202 = true
  · subst c3
    have H1 : ((selkielaw01_great.f k (([(⟨a0_0, a0_1, a0_2⟩ : S23)] : List (S23)))).bind fun t206 => (if t206 = true then (some true) else ((value_Key.f a0_0 a0_1 a0_2).bind fun bt207 => ((selkieref01_Key.f k a0_0 a0_1 a0_2).bind fun bt212 => ((value_Truth.f a0_0 a0_1 a0_2).bind fun t217 => ((selkieref01_Truth.f a0_0 a0_1 a0_2).bind fun t218 => (if (t217 == t218) = true then ((value_Type.f a0_0 a0_1 a0_2).bind fun t219 => ((selkieref01_Type.f a0_0 a0_1 a0_2).bind fun t220 => (if t219.toList = t220.toList then ((value_Print.f a0_0 a0_1 a0_2).bind fun t221 => ((selkieref01_Print.f k a0_0 a0_1 a0_2).bind fun t222 => (if t221.toList = t222.toList then ((value_Own.f a0_0 a0_1 a0_2).bind fun bt223 => ((selkieref01_Own.f k a0_0 a0_1 a0_2).bind fun bt226 => (if (bt223.1 == bt226.1 && (bt223.2.1 == bt226.2.1 && (bt223.2.2.toList == bt226.2.2.toList))) = true then (if (bt207.1 == bt212.1 && (bt207.2.1 == bt212.2.1 && (bt207.2.2.1.toList == bt212.2.2.1.toList))) = true then (some (bt207.2.2.2 == bt212.2.2.2)) else (some false)) else (some false)))) else (some false)))) else (some false)))) else (some false)))))))) = some r := by rw [if_pos rfl] at H; exact H
    clear H
    have H := H1
    clear H1
    obtain ⟨y203, hy203⟩ : ∃ y_ : List (S23), y_ = (([(⟨a0_0, a0_1, a0_2⟩ : S23)] : List (S23))) := ⟨_, rfl⟩
    replace H : ((selkielaw01_great.f k y203).bind fun t206 => (if t206 = true then (some true) else ((value_Key.f a0_0 a0_1 a0_2).bind fun bt207 => ((selkieref01_Key.f k a0_0 a0_1 a0_2).bind fun bt212 => ((value_Truth.f a0_0 a0_1 a0_2).bind fun t217 => ((selkieref01_Truth.f a0_0 a0_1 a0_2).bind fun t218 => (if (t217 == t218) = true then ((value_Type.f a0_0 a0_1 a0_2).bind fun t219 => ((selkieref01_Type.f a0_0 a0_1 a0_2).bind fun t220 => (if t219.toList = t220.toList then ((value_Print.f a0_0 a0_1 a0_2).bind fun t221 => ((selkieref01_Print.f k a0_0 a0_1 a0_2).bind fun t222 => (if t221.toList = t222.toList then ((value_Own.f a0_0 a0_1 a0_2).bind fun bt223 => ((selkieref01_Own.f k a0_0 a0_1 a0_2).bind fun bt226 => (if (bt223.1 == bt226.1 && (bt223.2.1 == bt226.2.1 && (bt223.2.2.toList == bt226.2.2.toList))) = true then (if (bt207.1 == bt212.1 && (bt207.2.1 == bt212.2.1 && (bt207.2.2.1.toList == bt212.2.2.1.toList))) = true then (some (bt207.2.2.2 == bt212.2.2.2)) else (some false)) else (some false)))) else (some false)))) else (some false)))) else (some false)))))))) = some r := by first | (rw [hy203]; with_reducible exact H) | (have H2_ := (Option.bind_some _ _).symm.trans H; rw [hy203]; with_reducible exact H2_) | (have H2_ := (Option.bind_some _ _).symm.trans H; with_reducible exact H2_) | with_reducible exact H | (rw [hy203]; exact H) | exact H
    have Ny203 := Aside0.mk hy203
    clear hy203
    replace H := Option.bind_eq_some_iff.mp H
    obtain ⟨t206, A40, H⟩ := H
    replace H : (if t206 = true then (some true) else ((value_Key.f a0_0 a0_1 a0_2).bind fun bt207 => ((selkieref01_Key.f k a0_0 a0_1 a0_2).bind fun bt212 => ((value_Truth.f a0_0 a0_1 a0_2).bind fun t217 => ((selkieref01_Truth.f a0_0 a0_1 a0_2).bind fun t218 => (if (t217 == t218) = true then ((value_Type.f a0_0 a0_1 a0_2).bind fun t219 => ((selkieref01_Type.f a0_0 a0_1 a0_2).bind fun t220 => (if t219.toList = t220.toList then ((value_Print.f a0_0 a0_1 a0_2).bind fun t221 => ((selkieref01_Print.f k a0_0 a0_1 a0_2).bind fun t222 => (if t221.toList = t222.toList then ((value_Own.f a0_0 a0_1 a0_2).bind fun bt223 => ((selkieref01_Own.f k a0_0 a0_1 a0_2).bind fun bt226 => (if (bt223.1 == bt226.1 && (bt223.2.1 == bt226.2.1 && (bt223.2.2.toList == bt226.2.2.toList))) = true then (if (bt207.1 == bt212.1 && (bt207.2.1 == bt212.2.1 && (bt207.2.2.1.toList == bt212.2.2.1.toList))) = true then (some (bt207.2.2.2 == bt212.2.2.2)) else (some false)) else (some false)))) else (some false)))) else (some false)))) else (some false))))))) = some r := H
    have A4 := Aside0.mk A40
    clear A40
    by_cases c5 : t206 = true
    · subst c5
      have H1 : (some true) = some r := by rw [if_pos rfl] at H; exact H
      clear H
      have H := H1
      clear H1
      obtain rfl := Option.some.inj H
      go_enter Tryd.func3, Tryd.ntmps3
      go_wp2_with (first | ((with_reducible refine gate_dst (N := 1) rfl ?_); refine box_event ?hg (N := 1) ?hd (cs := #[.int .i64 a0_0, .int .i64 a0_1, .string a0_2]) (t := 23) ?hr ?_; (case hd => rfl); (case hg => rfl); (case hr => first | (go_simp; done) | (go_simp; rfl)); intro gb201 hg w6 hbox hb; have n0_ := Aside0.mk (below_step (by repeat (first | (with_reducible first | exact HB.out | apply below_alloc | apply pw_below_drewN | apply below_drew1) | exact HB.out)) hb); have n1_ := Aside0.mk (hbox); have n2_ := Aside0.mk ((by rw [hg]; exact (below_size (by repeat (first | (with_reducible first | exact HB.out | apply below_alloc | apply pw_below_drewN | apply below_drew1) | exact HB.out))) : w.heap.size ≤ gb201)); have n3_ := Aside0.mk ((by rw [hg]; exact (below_size (by repeat (first | (with_reducible first | exact HB.out | apply below_alloc | apply pw_below_drewN | apply below_drew1) | exact HB.out))) : w.heap.size ≤ gb201)); clear HB; have HB := n0_; have BK201 := n1_; have GW201 := n2_; have GE201 := n3_; clear n0_ n1_ n2_ n3_; clear hb hbox hg) | ((with_reducible refine gate_callee (f := 8) rfl ?_); refine goesL_ (some 7) rfl rfl Tryd.func8 (by kernel_rfl) rfl #[] rfl (by (try simp only [List.map_toArray, List.map_cons, List.map_nil]); first | done | rfl | (simp only [List.length_drop, List.length_take]; rfl)) ?_; (with_reducible refine (selkielaw01_alive.calls  true _ (HTT.out.on (by repeat (first | (with_reducible first | exact HB.out | apply below_alloc | apply pw_below_drewN | apply below_drew1 | refine below_set ?_ GE201.out) | exact HB.out))) A2.out).mono ?_); rintro e w7 ⟨rfl, hb⟩; refine ⟨_, rfl, ?_⟩; have n0_ := Aside0.mk (blk_below (g := gb201) (o := .cells #[.int .i64 a0_0, .int .i64 a0_1, .string a0_2] 23 (0, 0)) (by (with_reducible repeat (first | refine blk_drewN ?_ _ | refine blk_drew ?_ | refine blk_alloc ?_ _)); exact BK201.out) hb); have n1_ := Aside0.mk (below_step (by repeat (first | (with_reducible first | exact HB.out | apply below_alloc | apply pw_below_drewN | apply below_drew1 | refine below_set ?_ GE201.out) | exact HB.out)) hb); clear BK201; clear HB; have BK201 := n0_; have HB := n1_; clear n0_ n1_; (try clear hb); (try clear hb2); (try clear hk); (try clear hi); have hcz8_0 : w7.cell? ⟨gb201, 0, none⟩ = some (.int .i64 a0_0) := (blk_cell BK201.out 0).trans rfl; have hcz8_1 : w7.cell? ⟨gb201, 1, none⟩ = some (.int .i64 a0_1) := (blk_cell BK201.out 1).trans rfl; have hcz8_2 : w7.cell? ⟨gb201, 2, none⟩ = some (.string a0_2) := (blk_cell BK201.out 2).trans rfl; have hfz8_0 := blk_frozen BK201.out 0; have hfz8_1 := blk_frozen BK201.out 1; have hfz8_2 := blk_frozen BK201.out 2) | ((with_reducible refine gate_dst (N := 10) rfl ?_); refine Kd.R_lit k23 _ 23 ?hg (N := 10) ?hd (xs := ([(⟨a0_0, a0_1, a0_2⟩ : S23)] : List (S23))) (inner := [.int .i64 a0_0, .int .i64 a0_1, .string a0_2]) (ok := fun _ => True) (okp := fun _ => True) ?hr ?hp (fun _ hk => hk) trivial (Below.refl _ _) (Nat.le_refl _) (by simp) ?_; (case hd => rfl); (case hg => rfl); (case hr => first | (go_simp; done) | (go_simp; rfl)); (case hp => exact (Reps.c3 (show Kd.M k23 _ _ _ (⟨a0_0, a0_1, a0_2⟩ : S23) [.int .i64 a0_0, .int .i64 a0_1, .string a0_2] from (k23_mkM _ _ _ (⟨a0_0, a0_1, a0_2⟩ : S23) )) (Reps.none _ _))); intro v204 w9 ho10 hb hg_ hnew_; clear hg_ hnew_; (first | rw [← Ny203.out] at ho10 | (simp only [Int.reduceToNat] at ho10; rw [← Ny203.out] at ho10)); have n0_ := Aside0.mk (Kd.R_lower (Kd.R_newB ho10 (g := gb201) (o := .cells #[.int .i64 a0_0, .int .i64 a0_1, .string a0_2] 23 (0, 0)) (by (with_reducible repeat (first | refine blk_drewN ?_ _ | refine blk_drew ?_ | refine blk_alloc ?_ _)); exact BK201.out)) (below_size (by repeat (first | (with_reducible first | exact HB.out | apply below_alloc | apply pw_below_drewN | apply below_drew1 | refine below_set ?_ GE201.out) | exact HB.out)))); have n1_ := Aside0.mk (blk_below (g := gb201) (o := .cells #[.int .i64 a0_0, .int .i64 a0_1, .string a0_2] 23 (0, 0)) (by (with_reducible repeat (first | refine blk_drewN ?_ _ | refine blk_drew ?_ | refine blk_alloc ?_ _)); exact BK201.out) hb); have n2_ := Aside0.mk (below_step (by repeat (first | (with_reducible first | exact HB.out | apply below_alloc | apply pw_below_drewN | apply below_drew1 | refine below_set ?_ GE201.out) | exact HB.out)) hb); clear BK201; clear HB; have HO205 := n0_; have BK201 := n1_; have HB := n2_; clear n0_ n1_ n2_; clear hb ho10; obtain ⟨Ao11, co11, eo11⟩ := Kd.R_slice HO205.out; subst eo11) | ((with_reducible refine gate_callee (f := 9) rfl ?_); refine goesL_ (some 11) rfl rfl Tryd.func9 (by kernel_rfl) rfl #[.slice Ao11 y203.length co11] rfl (by (try simp only [List.map_toArray, List.map_cons, List.map_nil]); first | done | rfl | (simp only [List.length_drop, List.length_take]; rfl)) ?_; (with_reducible refine (selkielaw01_great.calls k _ _ y203 true _ ?side1 ?side2 A4.out).mono ?_); (case side1 => repeat (first | exact (Kd.R_reads' HO205.out).2.2 | (with_reducible refine Kd.C_alloc ?_ _) | (with_reducible refine Kd.C_drewN ?_ _) | (with_reducible refine Kd.C_drew ?_))); (case side2 => exact (Kd.R_reads' HO205.out).2.1); rintro e w12 ⟨rfl, hb⟩; refine ⟨_, rfl, ?_⟩; have n0_ := Aside0.mk (Kd.R_below (by (with_reducible repeat (first | apply Kd.R_alloc | apply Kd.R_drewN | apply Kd.R_drew)); exact HO205.out) hb); have n1_ := Aside0.mk (blk_below (g := gb201) (o := .cells #[.int .i64 a0_0, .int .i64 a0_1, .string a0_2] 23 (0, 0)) (by (with_reducible repeat (first | refine blk_drewN ?_ _ | refine blk_drew ?_ | refine blk_alloc ?_ _)); exact BK201.out) hb); have n2_ := Aside0.mk (below_step (by repeat (first | (with_reducible first | exact HB.out | apply below_alloc | apply pw_below_drewN | apply below_drew1 | refine below_set ?_ GE201.out) | exact HB.out)) hb); clear HO205; clear BK201; clear HB; have HO205 := n0_; have BK201 := n1_; have HB := n2_; clear n0_ n1_ n2_; (try clear hb); (try clear hb2); (try clear hk); (try clear hi)))
      go_ret
      exact ⟨by first | rfl | (simp [errW_none, errW_some] <;> rfl) | (simp [*, errW_none, errW_some] <;> rfl), by repeat (first | (with_reducible first | exact HB.out | apply below_alloc | apply pw_below_drewN | apply below_drew1 | refine below_set ?_ GE201.out) | exact HB.out)⟩
    · replace c5 := Bool.eq_false_iff.mpr c5
      subst c5
      have H1 : ((value_Key.f a0_0 a0_1 a0_2).bind fun bt207 => ((selkieref01_Key.f k a0_0 a0_1 a0_2).bind fun bt212 => ((value_Truth.f a0_0 a0_1 a0_2).bind fun t217 => ((selkieref01_Truth.f a0_0 a0_1 a0_2).bind fun t218 => (if (t217 == t218) = true then ((value_Type.f a0_0 a0_1 a0_2).bind fun t219 => ((selkieref01_Type.f a0_0 a0_1 a0_2).bind fun t220 => (if t219.toList = t220.toList then ((value_Print.f a0_0 a0_1 a0_2).bind fun t221 => ((selkieref01_Print.f k a0_0 a0_1 a0_2).bind fun t222 => (if t221.toList = t222.toList then ((value_Own.f a0_0 a0_1 a0_2).bind fun bt223 => ((selkieref01_Own.f k a0_0 a0_1 a0_2).bind fun bt226 => (if (bt223.1 == bt226.1 && (bt223.2.1 == bt226.2.1 && (bt223.2.2.toList == bt226.2.2.toList))) = true then (if (bt207.1 == bt212.1 && (bt207.2.1 == bt212.2.1 && (bt207.2.2.1.toList == bt212.2.2.1.toList))) = true then (some (bt207.2.2.2 == bt212.2.2.2)) else (some false)) else (some false)))) else (some false)))) else (some false)))) else (some false)))))) = some r := by rw [if_neg (show ¬ (false = true) by decide)] at H; exact H
      clear H
      have H := H1
      clear H1
      replace H := Option.bind_eq_some_iff.mp H
      obtain ⟨⟨t207, t208, t209, t210⟩, A130, H⟩ := H
      replace H : ((selkieref01_Key.f k a0_0 a0_1 a0_2).bind fun bt212 => ((value_Truth.f a0_0 a0_1 a0_2).bind fun t217 => ((selkieref01_Truth.f a0_0 a0_1 a0_2).bind fun t218 => (if (t217 == t218) = true then ((value_Type.f a0_0 a0_1 a0_2).bind fun t219 => ((selkieref01_Type.f a0_0 a0_1 a0_2).bind fun t220 => (if t219.toList = t220.toList then ((value_Print.f a0_0 a0_1 a0_2).bind fun t221 => ((selkieref01_Print.f k a0_0 a0_1 a0_2).bind fun t222 => (if t221.toList = t222.toList then ((value_Own.f a0_0 a0_1 a0_2).bind fun bt223 => ((selkieref01_Own.f k a0_0 a0_1 a0_2).bind fun bt226 => (if (bt223.1 == bt226.1 && (bt223.2.1 == bt226.2.1 && (bt223.2.2.toList == bt226.2.2.toList))) = true then (if (t207 == bt212.1 && (t208 == bt212.2.1 && (t209.toList == bt212.2.2.1.toList))) = true then (some (t210 == bt212.2.2.2)) else (some false)) else (some false)))) else (some false)))) else (some false)))) else (some false))))) = some r := H
      have A13 := Aside0.mk A130
      clear A130
      replace H := Option.bind_eq_some_iff.mp H
      obtain ⟨⟨t212, t213, t214, t215⟩, A140, H⟩ := H
      replace H : ((value_Truth.f a0_0 a0_1 a0_2).bind fun t217 => ((selkieref01_Truth.f a0_0 a0_1 a0_2).bind fun t218 => (if (t217 == t218) = true then ((value_Type.f a0_0 a0_1 a0_2).bind fun t219 => ((selkieref01_Type.f a0_0 a0_1 a0_2).bind fun t220 => (if t219.toList = t220.toList then ((value_Print.f a0_0 a0_1 a0_2).bind fun t221 => ((selkieref01_Print.f k a0_0 a0_1 a0_2).bind fun t222 => (if t221.toList = t222.toList then ((value_Own.f a0_0 a0_1 a0_2).bind fun bt223 => ((selkieref01_Own.f k a0_0 a0_1 a0_2).bind fun bt226 => (if (bt223.1 == bt226.1 && (bt223.2.1 == bt226.2.1 && (bt223.2.2.toList == bt226.2.2.toList))) = true then (if (t207 == t212 && (t208 == t213 && (t209.toList == t214.toList))) = true then (some (t210 == t215)) else (some false)) else (some false)))) else (some false)))) else (some false)))) else (some false)))) = some r := H
      have A14 := Aside0.mk A140
      clear A140
      replace H := Option.bind_eq_some_iff.mp H
      obtain ⟨t217, A150, H⟩ := H
      replace H : ((selkieref01_Truth.f a0_0 a0_1 a0_2).bind fun t218 => (if (t217 == t218) = true then ((value_Type.f a0_0 a0_1 a0_2).bind fun t219 => ((selkieref01_Type.f a0_0 a0_1 a0_2).bind fun t220 => (if t219.toList = t220.toList then ((value_Print.f a0_0 a0_1 a0_2).bind fun t221 => ((selkieref01_Print.f k a0_0 a0_1 a0_2).bind fun t222 => (if t221.toList = t222.toList then ((value_Own.f a0_0 a0_1 a0_2).bind fun bt223 => ((selkieref01_Own.f k a0_0 a0_1 a0_2).bind fun bt226 => (if (bt223.1 == bt226.1 && (bt223.2.1 == bt226.2.1 && (bt223.2.2.toList == bt226.2.2.toList))) = true then (if (t207 == t212 && (t208 == t213 && (t209.toList == t214.toList))) = true then (some (t210 == t215)) else (some false)) else (some false)))) else (some false)))) else (some false)))) else (some false))) = some r := H
      have A15 := Aside0.mk A150
      clear A150
      replace H := Option.bind_eq_some_iff.mp H
      obtain ⟨t218, A160, H⟩ := H
      replace H : (if (t217 == t218) = true then ((value_Type.f a0_0 a0_1 a0_2).bind fun t219 => ((selkieref01_Type.f a0_0 a0_1 a0_2).bind fun t220 => (if t219.toList = t220.toList then ((value_Print.f a0_0 a0_1 a0_2).bind fun t221 => ((selkieref01_Print.f k a0_0 a0_1 a0_2).bind fun t222 => (if t221.toList = t222.toList then ((value_Own.f a0_0 a0_1 a0_2).bind fun bt223 => ((selkieref01_Own.f k a0_0 a0_1 a0_2).bind fun bt226 => (if (bt223.1 == bt226.1 && (bt223.2.1 == bt226.2.1 && (bt223.2.2.toList == bt226.2.2.toList))) = true then (if (t207 == t212 && (t208 == t213 && (t209.toList == t214.toList))) = true then (some (t210 == t215)) else (some false)) else (some false)))) else (some false)))) else (some false)))) else (some false)) = some r := H
      have A16 := Aside0.mk A160
      clear A160
      by_cases c17 : (t217 == t218) = true
      · rw [if_pos c17] at H
        have c17b0 : (t217 == t218) = true := c17
        (try (have c17b1 : decide (t217 = t218) = true := by simpa using c17))
        (try (have c17b2 : (t217 == t218) = true := by simpa using c17))
        clear c17
        replace H := Option.bind_eq_some_iff.mp H
        obtain ⟨t219, A180, H⟩ := H
        replace H : ((selkieref01_Type.f a0_0 a0_1 a0_2).bind fun t220 => (if t219.toList = t220.toList then ((value_Print.f a0_0 a0_1 a0_2).bind fun t221 => ((selkieref01_Print.f k a0_0 a0_1 a0_2).bind fun t222 => (if t221.toList = t222.toList then ((value_Own.f a0_0 a0_1 a0_2).bind fun bt223 => ((selkieref01_Own.f k a0_0 a0_1 a0_2).bind fun bt226 => (if (bt223.1 == bt226.1 && (bt223.2.1 == bt226.2.1 && (bt223.2.2.toList == bt226.2.2.toList))) = true then (if (t207 == t212 && (t208 == t213 && (t209.toList == t214.toList))) = true then (some (t210 == t215)) else (some false)) else (some false)))) else (some false)))) else (some false))) = some r := H
        have A18 := Aside0.mk A180
        clear A180
        replace H := Option.bind_eq_some_iff.mp H
        obtain ⟨t220, A190, H⟩ := H
        replace H : (if t219.toList = t220.toList then ((value_Print.f a0_0 a0_1 a0_2).bind fun t221 => ((selkieref01_Print.f k a0_0 a0_1 a0_2).bind fun t222 => (if t221.toList = t222.toList then ((value_Own.f a0_0 a0_1 a0_2).bind fun bt223 => ((selkieref01_Own.f k a0_0 a0_1 a0_2).bind fun bt226 => (if (bt223.1 == bt226.1 && (bt223.2.1 == bt226.2.1 && (bt223.2.2.toList == bt226.2.2.toList))) = true then (if (t207 == t212 && (t208 == t213 && (t209.toList == t214.toList))) = true then (some (t210 == t215)) else (some false)) else (some false)))) else (some false)))) else (some false)) = some r := H
        have A19 := Aside0.mk A190
        clear A190
        by_cases c20 : t219.toList = t220.toList
        · rw [if_pos c20] at H
          have c20b0 : (t219.toList == t220.toList) = true := beq_iff_eq.mpr c20
          have c20b1 : (t219.toList != t220.toList) = false := bne_eq_false_iff_eq.mpr c20
          clear c20
          replace H := Option.bind_eq_some_iff.mp H
          obtain ⟨t221, A210, H⟩ := H
          replace H : ((selkieref01_Print.f k a0_0 a0_1 a0_2).bind fun t222 => (if t221.toList = t222.toList then ((value_Own.f a0_0 a0_1 a0_2).bind fun bt223 => ((selkieref01_Own.f k a0_0 a0_1 a0_2).bind fun bt226 => (if (bt223.1 == bt226.1 && (bt223.2.1 == bt226.2.1 && (bt223.2.2.toList == bt226.2.2.toList))) = true then (if (t207 == t212 && (t208 == t213 && (t209.toList == t214.toList))) = true then (some (t210 == t215)) else (some false)) else (some false)))) else (some false))) = some r := H
          have A21 := Aside0.mk A210
          clear A210
          replace H := Option.bind_eq_some_iff.mp H
          obtain ⟨t222, A220, H⟩ := H
          replace H : (if t221.toList = t222.toList then ((value_Own.f a0_0 a0_1 a0_2).bind fun bt223 => ((selkieref01_Own.f k a0_0 a0_1 a0_2).bind fun bt226 => (if (bt223.1 == bt226.1 && (bt223.2.1 == bt226.2.1 && (bt223.2.2.toList == bt226.2.2.toList))) = true then (if (t207 == t212 && (t208 == t213 && (t209.toList == t214.toList))) = true then (some (t210 == t215)) else (some false)) else (some false)))) else (some false)) = some r := H
          have A22 := Aside0.mk A220
          clear A220
          by_cases c23 : t221.toList = t222.toList
          · rw [if_pos c23] at H
            have c23b0 : (t221.toList == t222.toList) = true := beq_iff_eq.mpr c23
            have c23b1 : (t221.toList != t222.toList) = false := bne_eq_false_iff_eq.mpr c23
            clear c23
            replace H := Option.bind_eq_some_iff.mp H
            obtain ⟨⟨t223, t224, t225⟩, A240, H⟩ := H
            replace H : ((selkieref01_Own.f k a0_0 a0_1 a0_2).bind fun bt226 => (if (t223 == bt226.1 && (t224 == bt226.2.1 && (t225.toList == bt226.2.2.toList))) = true then (if (t207 == t212 && (t208 == t213 && (t209.toList == t214.toList))) = true then (some (t210 == t215)) else (some false)) else (some false))) = some r := H
            have A24 := Aside0.mk A240
            clear A240
            replace H := Option.bind_eq_some_iff.mp H
            obtain ⟨⟨t226, t227, t228⟩, A250, H⟩ := H
            replace H : (if (t223 == t226 && (t224 == t227 && (t225.toList == t228.toList))) = true then (if (t207 == t212 && (t208 == t213 && (t209.toList == t214.toList))) = true then (some (t210 == t215)) else (some false)) else (some false)) = some r := H
            have A25 := Aside0.mk A250
            clear A250
            by_cases c26 : (t223 == t226 && (t224 == t227 && (t225.toList == t228.toList))) = true
            · rw [if_pos c26] at H
              have c26b0 : (t223 == t226 && (t224 == t227 && (t225.toList == t228.toList))) = true := c26
              (try (have c26b1 : decide (t223 = t226 && (t224 == t227 && (t225.toList == t228.toList))) = true := by simpa using c26))
              (try (have c26b2 : (t223 == t226 && (t224 == t227 && (t225.toList == t228.toList))) = true := by simpa using c26))
              clear c26
              by_cases c27 : (t207 == t212 && (t208 == t213 && (t209.toList == t214.toList))) = true
              · rw [if_pos c27] at H
                have c27b0 : (t207 == t212 && (t208 == t213 && (t209.toList == t214.toList))) = true := c27
                (try (have c27b1 : decide (t207 = t212 && (t208 == t213 && (t209.toList == t214.toList))) = true := by simpa using c27))
                (try (have c27b2 : (t207 == t212 && (t208 == t213 && (t209.toList == t214.toList))) = true := by simpa using c27))
                clear c27
                obtain rfl := Option.some.inj H
                go_enter Tryd.func3, Tryd.ntmps3
                try go_wp2_with (first | ((with_reducible refine gate_dst (N := 1) rfl ?_); refine box_event ?hg (N := 1) ?hd (cs := #[.int .i64 a0_0, .int .i64 a0_1, .string a0_2]) (t := 23) ?hr ?_; (case hd => rfl); (case hg => rfl); (case hr => first | (go_simp; done) | (go_simp; rfl)); intro gb201 hg w28 hbox hb; have n0_ := Aside0.mk (below_step (by repeat (first | (with_reducible first | exact HB.out | apply below_alloc | apply pw_below_drewN | apply below_drew1) | exact HB.out)) hb); have n1_ := Aside0.mk (hbox); have n2_ := Aside0.mk ((by rw [hg]; exact (below_size (by repeat (first | (with_reducible first | exact HB.out | apply below_alloc | apply pw_below_drewN | apply below_drew1) | exact HB.out))) : w.heap.size ≤ gb201)); have n3_ := Aside0.mk ((by rw [hg]; exact (below_size (by repeat (first | (with_reducible first | exact HB.out | apply below_alloc | apply pw_below_drewN | apply below_drew1) | exact HB.out))) : w.heap.size ≤ gb201)); clear HB; have HB := n0_; have BK201 := n1_; have GW201 := n2_; have GE201 := n3_; clear n0_ n1_ n2_ n3_; clear hb hbox hg) | ((with_reducible refine gate_callee (f := 8) rfl ?_); refine goesL_ (some 7) rfl rfl Tryd.func8 (by kernel_rfl) rfl #[] rfl (by (try simp only [List.map_toArray, List.map_cons, List.map_nil]); first | done | rfl | (simp only [List.length_drop, List.length_take]; rfl)) ?_; (with_reducible refine (selkielaw01_alive.calls  true _ (HTT.out.on (by repeat (first | (with_reducible first | exact HB.out | apply below_alloc | apply pw_below_drewN | apply below_drew1 | refine below_set ?_ GE201.out) | exact HB.out))) A2.out).mono ?_); rintro e w29 ⟨rfl, hb⟩; refine ⟨_, rfl, ?_⟩; have n0_ := Aside0.mk (blk_below (g := gb201) (o := .cells #[.int .i64 a0_0, .int .i64 a0_1, .string a0_2] 23 (0, 0)) (by (with_reducible repeat (first | refine blk_drewN ?_ _ | refine blk_drew ?_ | refine blk_alloc ?_ _)); exact BK201.out) hb); have n1_ := Aside0.mk (below_step (by repeat (first | (with_reducible first | exact HB.out | apply below_alloc | apply pw_below_drewN | apply below_drew1 | refine below_set ?_ GE201.out) | exact HB.out)) hb); clear BK201; clear HB; have BK201 := n0_; have HB := n1_; clear n0_ n1_; (try clear hb); (try clear hb2); (try clear hk); (try clear hi); have hcz30_0 : w29.cell? ⟨gb201, 0, none⟩ = some (.int .i64 a0_0) := (blk_cell BK201.out 0).trans rfl; have hcz30_1 : w29.cell? ⟨gb201, 1, none⟩ = some (.int .i64 a0_1) := (blk_cell BK201.out 1).trans rfl; have hcz30_2 : w29.cell? ⟨gb201, 2, none⟩ = some (.string a0_2) := (blk_cell BK201.out 2).trans rfl; have hfz30_0 := blk_frozen BK201.out 0; have hfz30_1 := blk_frozen BK201.out 1; have hfz30_2 := blk_frozen BK201.out 2) | ((with_reducible refine gate_dst (N := 10) rfl ?_); refine Kd.R_lit k23 _ 23 ?hg (N := 10) ?hd (xs := ([(⟨a0_0, a0_1, a0_2⟩ : S23)] : List (S23))) (inner := [.int .i64 a0_0, .int .i64 a0_1, .string a0_2]) (ok := fun _ => True) (okp := fun _ => True) ?hr ?hp (fun _ hk => hk) trivial (Below.refl _ _) (Nat.le_refl _) (by simp) ?_; (case hd => rfl); (case hg => rfl); (case hr => first | (go_simp; done) | (go_simp; rfl)); (case hp => exact (Reps.c3 (show Kd.M k23 _ _ _ (⟨a0_0, a0_1, a0_2⟩ : S23) [.int .i64 a0_0, .int .i64 a0_1, .string a0_2] from (k23_mkM _ _ _ (⟨a0_0, a0_1, a0_2⟩ : S23) )) (Reps.none _ _))); intro v204 w31 ho32 hb hg_ hnew_; clear hg_ hnew_; (first | rw [← Ny203.out] at ho32 | (simp only [Int.reduceToNat] at ho32; rw [← Ny203.out] at ho32)); have n0_ := Aside0.mk (Kd.R_lower (Kd.R_newB ho32 (g := gb201) (o := .cells #[.int .i64 a0_0, .int .i64 a0_1, .string a0_2] 23 (0, 0)) (by (with_reducible repeat (first | refine blk_drewN ?_ _ | refine blk_drew ?_ | refine blk_alloc ?_ _)); exact BK201.out)) (below_size (by repeat (first | (with_reducible first | exact HB.out | apply below_alloc | apply pw_below_drewN | apply below_drew1 | refine below_set ?_ GE201.out) | exact HB.out)))); have n1_ := Aside0.mk (blk_below (g := gb201) (o := .cells #[.int .i64 a0_0, .int .i64 a0_1, .string a0_2] 23 (0, 0)) (by (with_reducible repeat (first | refine blk_drewN ?_ _ | refine blk_drew ?_ | refine blk_alloc ?_ _)); exact BK201.out) hb); have n2_ := Aside0.mk (below_step (by repeat (first | (with_reducible first | exact HB.out | apply below_alloc | apply pw_below_drewN | apply below_drew1 | refine below_set ?_ GE201.out) | exact HB.out)) hb); clear BK201; clear HB; have HO205 := n0_; have BK201 := n1_; have HB := n2_; clear n0_ n1_ n2_; clear hb ho32; obtain ⟨Ao33, co33, eo33⟩ := Kd.R_slice HO205.out; subst eo33) | ((with_reducible refine gate_callee (f := 9) rfl ?_); refine goesL_ (some 11) rfl rfl Tryd.func9 (by kernel_rfl) rfl #[.slice Ao33 y203.length co33] rfl (by (try simp only [List.map_toArray, List.map_cons, List.map_nil]); first | done | rfl | (simp only [List.length_drop, List.length_take]; rfl)) ?_; (with_reducible refine (selkielaw01_great.calls k _ _ y203 false _ ?side1 ?side2 A4.out).mono ?_); (case side1 => repeat (first | exact (Kd.R_reads' HO205.out).2.2 | (with_reducible refine Kd.C_alloc ?_ _) | (with_reducible refine Kd.C_drewN ?_ _) | (with_reducible refine Kd.C_drew ?_))); (case side2 => exact (Kd.R_reads' HO205.out).2.1); rintro e w34 ⟨rfl, hb⟩; refine ⟨_, rfl, ?_⟩; have n0_ := Aside0.mk (Kd.R_below (by (with_reducible repeat (first | apply Kd.R_alloc | apply Kd.R_drewN | apply Kd.R_drew)); exact HO205.out) hb); have n1_ := Aside0.mk (blk_below (g := gb201) (o := .cells #[.int .i64 a0_0, .int .i64 a0_1, .string a0_2] 23 (0, 0)) (by (with_reducible repeat (first | refine blk_drewN ?_ _ | refine blk_drew ?_ | refine blk_alloc ?_ _)); exact BK201.out) hb); have n2_ := Aside0.mk (below_step (by repeat (first | (with_reducible first | exact HB.out | apply below_alloc | apply pw_below_drewN | apply below_drew1 | refine below_set ?_ GE201.out) | exact HB.out)) hb); clear HO205; clear BK201; clear HB; have HO205 := n0_; have BK201 := n1_; have HB := n2_; clear n0_ n1_ n2_; (try clear hb); (try clear hb2); (try clear hk); (try clear hi); have hcz35_0 : w34.cell? ⟨gb201, 0, none⟩ = some (.int .i64 a0_0) := (blk_cell BK201.out 0).trans rfl; have hcz35_1 : w34.cell? ⟨gb201, 1, none⟩ = some (.int .i64 a0_1) := (blk_cell BK201.out 1).trans rfl; have hcz35_2 : w34.cell? ⟨gb201, 2, none⟩ = some (.string a0_2) := (blk_cell BK201.out 2).trans rfl; have hfz35_0 := blk_frozen BK201.out 0; have hfz35_1 := blk_frozen BK201.out 1; have hfz35_2 := blk_frozen BK201.out 2) | ((with_reducible refine gate_callee (f := 10) rfl ?_); refine goesL_ (some 14) rfl rfl Tryd.func10 (by kernel_rfl) rfl #[.agg #[.int .i64 a0_0, .int .i64 a0_1, .string a0_2]] rfl (by (try simp only [List.map_toArray, List.map_cons, List.map_nil]); first | done | rfl | (simp only [List.length_drop, List.length_take]; rfl)) ?_; (with_reducible refine (value_Key.calls a0_0 a0_1 a0_2 t207 t208 t209 t210 _ A13.out).mono ?_); rintro e w36 ⟨rfl, hb⟩; refine ⟨_, rfl, ?_⟩; have n0_ := Aside0.mk (Kd.R_below (by (with_reducible repeat (first | apply Kd.R_alloc | apply Kd.R_drewN | apply Kd.R_drew)); exact HO205.out) hb); have n1_ := Aside0.mk (blk_below (g := gb201) (o := .cells #[.int .i64 a0_0, .int .i64 a0_1, .string a0_2] 23 (0, 0)) (by (with_reducible repeat (first | refine blk_drewN ?_ _ | refine blk_drew ?_ | refine blk_alloc ?_ _)); exact BK201.out) hb); have n2_ := Aside0.mk (below_step (by repeat (first | (with_reducible first | exact HB.out | apply below_alloc | apply pw_below_drewN | apply below_drew1 | refine below_set ?_ GE201.out) | exact HB.out)) hb); clear HO205; clear BK201; clear HB; have HO205 := n0_; have BK201 := n1_; have HB := n2_; clear n0_ n1_ n2_; (try clear hb); (try clear hb2); (try clear hk); (try clear hi)) | ((with_reducible refine gate_dst (N := 3) rfl ?_); refine box_event ?hg (N := 3) ?hd (cs := #[.int .i64 0, .int .i64 0, .string (⟨#[]⟩ : ByteArray)]) (t := 23) ?hr ?_; (case hd => rfl); (case hg => rfl); (case hr => first | (go_simp; done) | (go_simp; rfl)); intro gb211 hg w37 hbox hb; have n0_ := Aside0.mk (Kd.R_below (Kd.R_elderB (by (with_reducible repeat (first | apply Kd.R_alloc | apply Kd.R_drewN | apply Kd.R_drew)); exact HO205.out) gb211 (Nat.le_of_eq hg.symm)) hb); have n1_ := Aside0.mk (blk_below (g := gb201) (o := .cells #[.int .i64 a0_0, .int .i64 a0_1, .string a0_2] 23 (0, 0)) (by (with_reducible repeat (first | refine blk_drewN ?_ _ | refine blk_drew ?_ | refine blk_alloc ?_ _)); exact BK201.out) hb); have n2_ := Aside0.mk (below_step (by repeat (first | (with_reducible first | exact HB.out | apply below_alloc | apply pw_below_drewN | apply below_drew1 | refine below_set ?_ GE201.out) | exact HB.out)) hb); have n3_ := Aside0.mk (hbox); have n4_ := Aside0.mk ((by rw [hg]; exact (below_size (by repeat (first | (with_reducible first | exact HB.out | apply below_alloc | apply pw_below_drewN | apply below_drew1 | refine below_set ?_ GE201.out) | exact HB.out))) : w.heap.size ≤ gb211)); have n5_ := Aside0.mk ((by rw [hg]; exact (below_size (by repeat (first | (with_reducible first | exact HB.out | apply below_alloc | apply pw_below_drewN | apply below_drew1 | refine below_set ?_ GE201.out) | exact HB.out))) : w.heap.size ≤ gb211)); have n6_ := Aside0.mk ((by rw [hg]; exact Nat.ne_of_lt (blk_lt (g := gb201) (o := .cells #[.int .i64 a0_0, .int .i64 a0_1, .string a0_2] 23 (0, 0)) (by (with_reducible repeat (first | refine blk_drewN ?_ _ | refine blk_drew ?_ | refine blk_alloc ?_ _)); exact BK201.out)) : gb201 ≠ gb211)); have n7_ := Aside0.mk ((by rw [hg]; exact Nat.ne_of_gt (blk_lt (g := gb201) (o := .cells #[.int .i64 a0_0, .int .i64 a0_1, .string a0_2] 23 (0, 0)) (by (with_reducible repeat (first | refine blk_drewN ?_ _ | refine blk_drew ?_ | refine blk_alloc ?_ _)); exact BK201.out)) : gb211 ≠ gb201)); clear HO205; clear BK201; clear HB; have HO205 := n0_; have BK201 := n1_; have HB := n2_; have BK211 := n3_; have GW211 := n4_; have GE211 := n5_; have NB201_211 := n6_; have NB211_201 := n7_; clear n0_ n1_ n2_ n3_ n4_ n5_ n6_ n7_; clear hb hbox hg; have hnb38 := NB211_201.out; have hnc38 := NB201_211.out; have hcz39_0 : w37.cell? ⟨gb211, 0, none⟩ = some (.int .i64 0) := (blk_cell BK211.out 0).trans rfl; have hcz39_1 : w37.cell? ⟨gb211, 1, none⟩ = some (.int .i64 0) := (blk_cell BK211.out 1).trans rfl; have hcz39_2 : w37.cell? ⟨gb211, 2, none⟩ = some (.string (⟨#[]⟩ : ByteArray)) := (blk_cell BK211.out 2).trans rfl; have hfz39_0 := blk_frozen BK211.out 0; have hfz39_1 := blk_frozen BK211.out 1; have hfz39_2 := blk_frozen BK211.out 2; have hcz40_0 : w37.cell? ⟨gb201, 0, none⟩ = some (.int .i64 a0_0) := (blk_cell BK201.out 0).trans rfl; have hcz40_1 : w37.cell? ⟨gb201, 1, none⟩ = some (.int .i64 a0_1) := (blk_cell BK201.out 1).trans rfl; have hcz40_2 : w37.cell? ⟨gb201, 2, none⟩ = some (.string a0_2) := (blk_cell BK201.out 2).trans rfl; have hfz40_0 := blk_frozen BK201.out 0; have hfz40_1 := blk_frozen BK201.out 1; have hfz40_2 := blk_frozen BK201.out 2) | ((with_reducible refine gate_callee (f := 11) rfl ?_); refine goesL_ (some 19) rfl rfl Tryd.func11 (by kernel_rfl) rfl #[.agg #[.int .i64 a0_0, .int .i64 a0_1, .string a0_2]] rfl (by (try simp only [List.map_toArray, List.map_cons, List.map_nil]); first | done | rfl | (simp only [List.length_drop, List.length_take]; rfl)) ?_; (with_reducible refine (selkieref01_Key.calls k a0_0 a0_1 a0_2 t212 t213 t214 t215 _ A14.out).mono ?_); rintro e w41 ⟨rfl, hb⟩; refine ⟨_, rfl, ?_⟩; have n0_ := Aside0.mk (Kd.R_below (by (with_reducible repeat (first | apply Kd.R_alloc | apply Kd.R_drewN | apply Kd.R_drew)); exact (Kd.R_mono (Kd.R_far (p := ⟨gb211, 2, none⟩) (Kd.R_far (p := ⟨gb211, 1, none⟩) (Kd.R_far (p := ⟨gb211, 0, none⟩) (Kd.R_mono HO205.out (fun k_ hk => (⟨hk, hk.2⟩ : _ ∧ k_ ≠ gb211))) (fun _ hk => hk.2) (.int .i64 t207)) (fun _ hk => hk.2) (.int .i64 t208)) (fun _ hk => hk.2) (.string t209)) (fun _ h_ => h_.1))) hb); have n1_ := Aside0.mk (blk_below (g := gb201) (o := .cells #[.int .i64 a0_0, .int .i64 a0_1, .string a0_2] 23 (0, 0)) (by (with_reducible repeat (first | refine blk_drewN ?_ _ | refine blk_drew ?_ | refine blk_alloc ?_ _)); refine blk_far ?_ NB201_211.out _; (with_reducible repeat (first | refine blk_drewN ?_ _ | refine blk_drew ?_ | refine blk_alloc ?_ _)); refine blk_far ?_ NB201_211.out _; (with_reducible repeat (first | refine blk_drewN ?_ _ | refine blk_drew ?_ | refine blk_alloc ?_ _)); refine blk_far ?_ NB201_211.out _; (with_reducible repeat (first | refine blk_drewN ?_ _ | refine blk_drew ?_ | refine blk_alloc ?_ _)); exact BK201.out) hb); have n2_ := Aside0.mk (blk_below (g := gb211) (o := .cells #[.int .i64 t207, .int .i64 t208, .string t209] 23 (0, 0)) (by (with_reducible repeat (first | refine blk_drewN ?_ _ | refine blk_drew ?_ | refine blk_alloc ?_ _)); refine blk_put (cs := #[.int .i64 t207, .int .i64 t208, .string (⟨#[]⟩ : ByteArray)]) ?_ 2 _ rfl; (with_reducible repeat (first | refine blk_drewN ?_ _ | refine blk_drew ?_ | refine blk_alloc ?_ _)); refine blk_put (cs := #[.int .i64 t207, .int .i64 0, .string (⟨#[]⟩ : ByteArray)]) ?_ 1 _ rfl; (with_reducible repeat (first | refine blk_drewN ?_ _ | refine blk_drew ?_ | refine blk_alloc ?_ _)); refine blk_put (cs := #[.int .i64 0, .int .i64 0, .string (⟨#[]⟩ : ByteArray)]) ?_ 0 _ rfl; (with_reducible repeat (first | refine blk_drewN ?_ _ | refine blk_drew ?_ | refine blk_alloc ?_ _)); exact BK211.out) hb); have n3_ := Aside0.mk (below_step (by repeat (first | (with_reducible first | exact HB.out | apply below_alloc | apply pw_below_drewN | apply below_drew1 | refine below_set ?_ GE201.out | refine below_set ?_ GE211.out) | exact HB.out)) hb); clear HO205; clear BK201; clear BK211; clear HB; have HO205 := n0_; have BK201 := n1_; have BK211 := n2_; have HB := n3_; clear n0_ n1_ n2_ n3_; (try clear hb); (try clear hb2); (try clear hk); (try clear hi)) | ((with_reducible refine gate_dst (N := 5) rfl ?_); refine box_event ?hg (N := 5) ?hd (cs := #[.int .i64 0, .int .i64 0, .string (⟨#[]⟩ : ByteArray)]) (t := 23) ?hr ?_; (case hd => rfl); (case hg => rfl); (case hr => first | (go_simp; done) | (go_simp; rfl)); intro gb216 hg w42 hbox hb; have n0_ := Aside0.mk (Kd.R_below (Kd.R_elderB (by (with_reducible repeat (first | apply Kd.R_alloc | apply Kd.R_drewN | apply Kd.R_drew)); exact HO205.out) gb216 (Nat.le_of_eq hg.symm)) hb); have n1_ := Aside0.mk (blk_below (g := gb201) (o := .cells #[.int .i64 a0_0, .int .i64 a0_1, .string a0_2] 23 (0, 0)) (by (with_reducible repeat (first | refine blk_drewN ?_ _ | refine blk_drew ?_ | refine blk_alloc ?_ _)); exact BK201.out) hb); have n2_ := Aside0.mk (blk_below (g := gb211) (o := .cells #[.int .i64 t207, .int .i64 t208, .string t209] 23 (0, 0)) (by (with_reducible repeat (first | refine blk_drewN ?_ _ | refine blk_drew ?_ | refine blk_alloc ?_ _)); exact BK211.out) hb); have n3_ := Aside0.mk (below_step (by repeat (first | (with_reducible first | exact HB.out | apply below_alloc | apply pw_below_drewN | apply below_drew1 | refine below_set ?_ GE201.out | refine below_set ?_ GE211.out) | exact HB.out)) hb); have n4_ := Aside0.mk (hbox); have n5_ := Aside0.mk ((by rw [hg]; exact (below_size (by repeat (first | (with_reducible first | exact HB.out | apply below_alloc | apply pw_below_drewN | apply below_drew1 | refine below_set ?_ GE201.out | refine below_set ?_ GE211.out) | exact HB.out))) : w.heap.size ≤ gb216)); have n6_ := Aside0.mk ((by rw [hg]; exact (below_size (by repeat (first | (with_reducible first | exact HB.out | apply below_alloc | apply pw_below_drewN | apply below_drew1 | refine below_set ?_ GE201.out | refine below_set ?_ GE211.out) | exact HB.out))) : w.heap.size ≤ gb216)); have n7_ := Aside0.mk ((by rw [hg]; exact Nat.ne_of_lt (blk_lt (g := gb201) (o := .cells #[.int .i64 a0_0, .int .i64 a0_1, .string a0_2] 23 (0, 0)) (by (with_reducible repeat (first | refine blk_drewN ?_ _ | refine blk_drew ?_ | refine blk_alloc ?_ _)); exact BK201.out)) : gb201 ≠ gb216)); have n8_ := Aside0.mk ((by rw [hg]; exact Nat.ne_of_gt (blk_lt (g := gb201) (o := .cells #[.int .i64 a0_0, .int .i64 a0_1, .string a0_2] 23 (0, 0)) (by (with_reducible repeat (first | refine blk_drewN ?_ _ | refine blk_drew ?_ | refine blk_alloc ?_ _)); exact BK201.out)) : gb216 ≠ gb201)); have n9_ := Aside0.mk ((by rw [hg]; exact Nat.ne_of_lt (blk_lt (g := gb211) (o := .cells #[.int .i64 t207, .int .i64 t208, .string t209] 23 (0, 0)) (by (with_reducible repeat (first | refine blk_drewN ?_ _ | refine blk_drew ?_ | refine blk_alloc ?_ _)); exact BK211.out)) : gb211 ≠ gb216)); have n10_ := Aside0.mk ((by rw [hg]; exact Nat.ne_of_gt (blk_lt (g := gb211) (o := .cells #[.int .i64 t207, .int .i64 t208, .string t209] 23 (0, 0)) (by (with_reducible repeat (first | refine blk_drewN ?_ _ | refine blk_drew ?_ | refine blk_alloc ?_ _)); exact BK211.out)) : gb216 ≠ gb211)); clear HO205; clear BK201; clear BK211; clear HB; have HO205 := n0_; have BK201 := n1_; have BK211 := n2_; have HB := n3_; have BK216 := n4_; have GW216 := n5_; have GE216 := n6_; have NB201_216 := n7_; have NB216_201 := n8_; have NB211_216 := n9_; have NB216_211 := n10_; clear n0_ n1_ n2_ n3_ n4_ n5_ n6_ n7_ n8_ n9_ n10_; clear hb hbox hg; have hnb43 := NB216_201.out; have hnc43 := NB201_216.out; have hnb44 := NB216_211.out; have hnc44 := NB211_216.out; have hcz45_0 : w42.cell? ⟨gb216, 0, none⟩ = some (.int .i64 0) := (blk_cell BK216.out 0).trans rfl; have hcz45_1 : w42.cell? ⟨gb216, 1, none⟩ = some (.int .i64 0) := (blk_cell BK216.out 1).trans rfl; have hcz45_2 : w42.cell? ⟨gb216, 2, none⟩ = some (.string (⟨#[]⟩ : ByteArray)) := (blk_cell BK216.out 2).trans rfl; have hfz45_0 := blk_frozen BK216.out 0; have hfz45_1 := blk_frozen BK216.out 1; have hfz45_2 := blk_frozen BK216.out 2))
                have n0_ : Aside0 (Kd.R k23 23 (((w42.setCell ⟨gb216, 0, none⟩ (.int .i64 t212)).setCell ⟨gb216, 1, none⟩ (.int .i64 t213)).setCell ⟨gb216, 2, none⟩ (.string t214)) w.heap.size (fun k_ => k_ ≠ gb201 ∧ k_ ≠ gb211 ∧ k_ ≠ gb216) (.slice Ao33 y203.length co33) y203) := ⟨by (with_reducible repeat (first | apply Kd.R_alloc | apply Kd.R_drewN | apply Kd.R_drew)); exact Kd.R_mono (Kd.R_far (p := ⟨gb216, 2, none⟩) (Kd.R_far (p := ⟨gb216, 1, none⟩) (Kd.R_far (p := ⟨gb216, 0, none⟩) (Kd.R_mono HO205.out (fun k_ hk => (⟨hk, hk.2⟩ : _ ∧ k_ ≠ gb216))) (fun _ hk => hk.2) (.int .i64 t212)) (fun _ hk => hk.2) (.int .i64 t213)) (fun _ hk => hk.2) (.string t214)) (fun _ hk => ⟨hk.1.1.1.2, ⟨hk.1.1.2, hk.1.2⟩⟩)⟩
                have n1_ : Aside0 ((((w42.setCell ⟨gb216, 0, none⟩ (.int .i64 t212)).setCell ⟨gb216, 1, none⟩ (.int .i64 t213)).setCell ⟨gb216, 2, none⟩ (.string t214)).heap[gb201]? = some (.cells #[.int .i64 a0_0, .int .i64 a0_1, .string a0_2] 23 (0, 0))) := ⟨by (with_reducible repeat (first | refine blk_drewN ?_ _ | refine blk_drew ?_ | refine blk_alloc ?_ _)); refine blk_far ?_ NB201_216.out _; (with_reducible repeat (first | refine blk_drewN ?_ _ | refine blk_drew ?_ | refine blk_alloc ?_ _)); refine blk_far ?_ NB201_216.out _; (with_reducible repeat (first | refine blk_drewN ?_ _ | refine blk_drew ?_ | refine blk_alloc ?_ _)); refine blk_far ?_ NB201_216.out _; (with_reducible repeat (first | refine blk_drewN ?_ _ | refine blk_drew ?_ | refine blk_alloc ?_ _)); exact BK201.out⟩
                have n2_ : Aside0 ((((w42.setCell ⟨gb216, 0, none⟩ (.int .i64 t212)).setCell ⟨gb216, 1, none⟩ (.int .i64 t213)).setCell ⟨gb216, 2, none⟩ (.string t214)).heap[gb211]? = some (.cells #[.int .i64 t207, .int .i64 t208, .string t209] 23 (0, 0))) := ⟨by (with_reducible repeat (first | refine blk_drewN ?_ _ | refine blk_drew ?_ | refine blk_alloc ?_ _)); refine blk_far ?_ NB211_216.out _; (with_reducible repeat (first | refine blk_drewN ?_ _ | refine blk_drew ?_ | refine blk_alloc ?_ _)); refine blk_far ?_ NB211_216.out _; (with_reducible repeat (first | refine blk_drewN ?_ _ | refine blk_drew ?_ | refine blk_alloc ?_ _)); refine blk_far ?_ NB211_216.out _; (with_reducible repeat (first | refine blk_drewN ?_ _ | refine blk_drew ?_ | refine blk_alloc ?_ _)); exact BK211.out⟩
                have n3_ : Aside0 ((((w42.setCell ⟨gb216, 0, none⟩ (.int .i64 t212)).setCell ⟨gb216, 1, none⟩ (.int .i64 t213)).setCell ⟨gb216, 2, none⟩ (.string t214)).heap[gb216]? = some (.cells #[.int .i64 t212, .int .i64 t213, .string t214] 23 (0, 0))) := ⟨by (with_reducible repeat (first | refine blk_drewN ?_ _ | refine blk_drew ?_ | refine blk_alloc ?_ _)); refine blk_put (cs := #[.int .i64 t212, .int .i64 t213, .string (⟨#[]⟩ : ByteArray)]) ?_ 2 _ rfl; (with_reducible repeat (first | refine blk_drewN ?_ _ | refine blk_drew ?_ | refine blk_alloc ?_ _)); refine blk_put (cs := #[.int .i64 t212, .int .i64 0, .string (⟨#[]⟩ : ByteArray)]) ?_ 1 _ rfl; (with_reducible repeat (first | refine blk_drewN ?_ _ | refine blk_drew ?_ | refine blk_alloc ?_ _)); refine blk_put (cs := #[.int .i64 0, .int .i64 0, .string (⟨#[]⟩ : ByteArray)]) ?_ 0 _ rfl; (with_reducible repeat (first | refine blk_drewN ?_ _ | refine blk_drew ?_ | refine blk_alloc ?_ _)); exact BK216.out⟩
                have n4_ : Aside0 (Below w.heap.size w (((w42.setCell ⟨gb216, 0, none⟩ (.int .i64 t212)).setCell ⟨gb216, 1, none⟩ (.int .i64 t213)).setCell ⟨gb216, 2, none⟩ (.string t214))) := ⟨by repeat (first | (with_reducible first | exact HB.out | apply below_alloc | apply pw_below_drewN | apply below_drew1 | refine below_set ?_ GE201.out | refine below_set ?_ GE211.out | refine below_set ?_ GE216.out) | exact HB.out)⟩
                (try clear HO205)
                (try clear BK201)
                (try clear BK211)
                (try clear BK216)
                (try clear HB)
                generalize (((w42.setCell ⟨gb216, 0, none⟩ (.int .i64 t212)).setCell ⟨gb216, 1, none⟩ (.int .i64 t213)).setCell ⟨gb216, 2, none⟩ (.string t214)) = w46 at n0_ n1_ n2_ n3_ n4_ ⊢
                have HO205 := n0_
                have BK201 := n1_
                have BK211 := n2_
                have BK216 := n3_
                have HB := n4_
                clear n0_ n1_ n2_ n3_ n4_
                have n0_ := Aside0.mk (Kd.R_drew HO205.out)
                have n1_ := Aside0.mk (blk_drew BK201.out)
                have n2_ := Aside0.mk (blk_drew BK211.out)
                have n3_ := Aside0.mk (blk_drew BK216.out)
                have n4_ := Aside0.mk (below_drew1 HB.out)
                clear HO205
                clear BK201
                clear BK211
                clear BK216
                clear HB
                have HO205 := n0_
                have BK201 := n1_
                have BK211 := n2_
                have BK216 := n3_
                have HB := n4_
                clear n0_ n1_ n2_ n3_ n4_
                refine start_ (n := 37) (S := fun w' => w'.cell? ⟨gb201, 0, none⟩ = some (.int .i64 a0_0) ∧ w'.cell? ⟨gb201, 1, none⟩ = some (.int .i64 a0_1) ∧ w'.cell? ⟨gb201, 2, none⟩ = some (.string a0_2) ∧ w'.cell? ⟨gb211, 0, none⟩ = some (.int .i64 t207) ∧ w'.cell? ⟨gb211, 1, none⟩ = some (.int .i64 t208) ∧ w'.cell? ⟨gb211, 2, none⟩ = some (.string t209) ∧ w'.cell? ⟨gb216, 0, none⟩ = some (.int .i64 t212) ∧ w'.cell? ⟨gb216, 1, none⟩ = some (.int .i64 t213) ∧ w'.cell? ⟨gb216, 2, none⟩ = some (.string t214)) (ds := []) #[false, false, false, false, false, false, false, false, false, false, false, false, false, false, false, false, false, false, false, false, false, false, false, false, false, false, false, false, false, false, false, false, false, false, false, false, false] (by kernel_rfl) rfl rfl ⟨(blk_cell BK201.out 0).trans rfl, (blk_cell BK201.out 1).trans rfl, (blk_cell BK201.out 2).trans rfl, (blk_cell BK211.out 0).trans rfl, (blk_cell BK211.out 1).trans rfl, (blk_cell BK211.out 2).trans rfl, (blk_cell BK216.out 0).trans rfl, (blk_cell BK216.out 1).trans rfl, (blk_cell BK216.out 2).trans rfl⟩ (fun hHeld => ?_); refine with_tabW selkielaw01_ValueAsks.tab7 selkielaw01_ValueAsks.bits7 (fun HT_ HW_ => ?_)
                generalize w46.drew = w47 at HO205 BK201 BK211 BK216 HB hHeld ⊢
                refine take_ (i := 0) (N := some 22) (v := ?_) (a' := ?_) #[true, false, false, false, false, false, false, false, false, false, false, false, false, false, false, false, false, false, false, false, false, false, false, false, false, false, false, false, false, false, false, false, false, false, false, false, false] rfl rfl (take_ofW HT_.out HW_.out (by kernel_rfl)) (fun _ _ _ h => h) (Or.inl ⟨by rfl, ?_⟩) hHeld ?_ ?_
                rotate_left
                · rintro w' ⟨s0, s1, s2, s3, s4, s5, s6, s7, s8⟩
                  go_simp
                  with_reducible rfl
                rotate_left
                · simp only [Act.put, List.setIfInBounds_toArray, List.set_cons_zero, List.set_cons_succ, i64_w, i32_w]
                  rfl
                refine take_ (i := 2) (N := some 24) (v := ?_) (a' := ?_) #[true, false, true, false, false, false, false, false, false, false, false, false, false, false, false, false, false, false, false, false, false, false, false, false, false, false, false, false, false, false, false, false, false, false, false, false, false] rfl rfl (take_ofW HT_.out HW_.out (by kernel_rfl)) (fun _ _ _ h => h) (Or.inl ⟨by rfl, ?_⟩) hHeld ?_ ?_
                rotate_left
                · rintro w' ⟨s0, s1, s2, s3, s4, s5, s6, s7, s8⟩
                  go_simp
                  with_reducible rfl
                rotate_left
                · simp only [Act.put, List.setIfInBounds_toArray, List.set_cons_zero, List.set_cons_succ, i64_w, i32_w]
                  rfl
                refine one_ (i := 1) (N := some 23) #[true, true, true, false, false, false, false, false, false, false, false, false, false, false, false, false, false, false, false, false, false, false, false, false, false, false, false, false, false, false, false, false, false, false, false, false, false] rfl rfl (one_of HT_.out (by kernel_rfl)) (by decide) (fun K hK => ?_)
                refine goes_ Tryd.func12 (by kernel_rfl) rfl #[.agg #[.int .i64 a0_0, .int .i64 a0_1, .string a0_2]] (by rfl) rfl rfl (by (try simp only [List.map_toArray, List.map_cons, List.map_nil]); first | done | rfl | (simp only [List.length_drop, List.length_take]; rfl)) ?_
                with_reducible refine (value_Truth.calls a0_0 a0_1 a0_2 t217 _ A15.out).mono ?_
                rintro e w48 ⟨rfl, hb⟩
                refine ⟨_, rfl, ?_⟩
                have n0_ := Aside0.mk (Kd.R_below (by (with_reducible repeat (first | apply Kd.R_alloc | apply Kd.R_drewN | apply Kd.R_drew)); exact HO205.out) hb)
                have n1_ := Aside0.mk (blk_below (g := gb201) (o := .cells #[.int .i64 a0_0, .int .i64 a0_1, .string a0_2] 23 (0, 0)) (by (with_reducible repeat (first | refine blk_drewN ?_ _ | refine blk_drew ?_ | refine blk_alloc ?_ _)); exact BK201.out) hb)
                have n2_ := Aside0.mk (blk_below (g := gb211) (o := .cells #[.int .i64 t207, .int .i64 t208, .string t209] 23 (0, 0)) (by (with_reducible repeat (first | refine blk_drewN ?_ _ | refine blk_drew ?_ | refine blk_alloc ?_ _)); exact BK211.out) hb)
                have n3_ := Aside0.mk (blk_below (g := gb216) (o := .cells #[.int .i64 t212, .int .i64 t213, .string t214] 23 (0, 0)) (by (with_reducible repeat (first | refine blk_drewN ?_ _ | refine blk_drew ?_ | refine blk_alloc ?_ _)); exact BK216.out) hb)
                have n4_ := Aside0.mk (below_step (by repeat (first | (with_reducible first | exact HB.out | apply below_alloc | apply pw_below_drewN | apply below_drew1 | refine below_set ?_ GE201.out | refine below_set ?_ GE211.out | refine below_set ?_ GE216.out) | exact HB.out)) hb)
                clear HO205
                clear BK201
                clear BK211
                clear BK216
                clear HB
                have HO205 := n0_
                have BK201 := n1_
                have BK211 := n2_
                have BK216 := n3_
                have HB := n4_
                clear n0_ n1_ n2_ n3_ n4_
                (try clear hb)
                (try clear hb2)
                (try clear hk)
                (try clear hi)
                refine hK.out _ _ ⟨(blk_cell BK201.out 0).trans rfl, (blk_cell BK201.out 1).trans rfl, (blk_cell BK201.out 2).trans rfl, (blk_cell BK211.out 0).trans rfl, (blk_cell BK211.out 1).trans rfl, (blk_cell BK211.out 2).trans rfl, (blk_cell BK216.out 0).trans rfl, (blk_cell BK216.out 1).trans rfl, (blk_cell BK216.out 2).trans rfl⟩ (fun hHeld => ?_)
                clear hK K
                refine norm_ (a' := ?_) ?_ ?_
                rotate_left
                · show Act.put _ (some 23) _ = _
                  simp only [Act.put, List.setIfInBounds_toArray, List.set_cons_zero, List.set_cons_succ, i64_w, i32_w]
                  rfl
                refine one_ (i := 3) (N := some 25) #[true, true, true, true, false, false, false, false, false, false, false, false, false, false, false, false, false, false, false, false, false, false, false, false, false, false, false, false, false, false, false, false, false, false, false, false, false] rfl rfl (one_of HT_.out (by kernel_rfl)) (by decide) (fun K hK => ?_)
                refine goes_ Tryd.func13 (by kernel_rfl) rfl #[.agg #[.int .i64 a0_0, .int .i64 a0_1, .string a0_2]] (by rfl) rfl rfl (by (try simp only [List.map_toArray, List.map_cons, List.map_nil]); first | done | rfl | (simp only [List.length_drop, List.length_take]; rfl)) ?_
                with_reducible refine (selkieref01_Truth.calls a0_0 a0_1 a0_2 t218 _ A16.out).mono ?_
                rintro e w49 ⟨rfl, hb⟩
                refine ⟨_, rfl, ?_⟩
                have n0_ := Aside0.mk (Kd.R_below (by (with_reducible repeat (first | apply Kd.R_alloc | apply Kd.R_drewN | apply Kd.R_drew)); exact HO205.out) hb)
                have n1_ := Aside0.mk (blk_below (g := gb201) (o := .cells #[.int .i64 a0_0, .int .i64 a0_1, .string a0_2] 23 (0, 0)) (by (with_reducible repeat (first | refine blk_drewN ?_ _ | refine blk_drew ?_ | refine blk_alloc ?_ _)); exact BK201.out) hb)
                have n2_ := Aside0.mk (blk_below (g := gb211) (o := .cells #[.int .i64 t207, .int .i64 t208, .string t209] 23 (0, 0)) (by (with_reducible repeat (first | refine blk_drewN ?_ _ | refine blk_drew ?_ | refine blk_alloc ?_ _)); exact BK211.out) hb)
                have n3_ := Aside0.mk (blk_below (g := gb216) (o := .cells #[.int .i64 t212, .int .i64 t213, .string t214] 23 (0, 0)) (by (with_reducible repeat (first | refine blk_drewN ?_ _ | refine blk_drew ?_ | refine blk_alloc ?_ _)); exact BK216.out) hb)
                have n4_ := Aside0.mk (below_step (by repeat (first | (with_reducible first | exact HB.out | apply below_alloc | apply pw_below_drewN | apply below_drew1 | refine below_set ?_ GE201.out | refine below_set ?_ GE211.out | refine below_set ?_ GE216.out) | exact HB.out)) hb)
                clear HO205
                clear BK201
                clear BK211
                clear BK216
                clear HB
                have HO205 := n0_
                have BK201 := n1_
                have BK211 := n2_
                have BK216 := n3_
                have HB := n4_
                clear n0_ n1_ n2_ n3_ n4_
                (try clear hb)
                (try clear hb2)
                (try clear hk)
                (try clear hi)
                refine hK.out _ _ ⟨(blk_cell BK201.out 0).trans rfl, (blk_cell BK201.out 1).trans rfl, (blk_cell BK201.out 2).trans rfl, (blk_cell BK211.out 0).trans rfl, (blk_cell BK211.out 1).trans rfl, (blk_cell BK211.out 2).trans rfl, (blk_cell BK216.out 0).trans rfl, (blk_cell BK216.out 1).trans rfl, (blk_cell BK216.out 2).trans rfl⟩ (fun hHeld => ?_)
                clear hK K
                refine norm_ (a' := ?_) ?_ ?_
                rotate_left
                · show Act.put _ (some 25) _ = _
                  simp only [Act.put, List.setIfInBounds_toArray, List.set_cons_zero, List.set_cons_succ, i64_w, i32_w]
                  rfl
                refine pure_ (i := 4) (N := some 26) (v := ?_) (a' := ?_) #[true, true, true, true, true, false, false, false, false, false, false, false, false, false, false, false, false, false, false, false, false, false, false, false, false, false, false, false, false, false, false, false, false, false, false, false, false] rfl rfl (any_of HT_.out (by kernel_rfl)) (fun _ _ _ h => h) (Or.inl ⟨by rfl, ?_⟩) ?_ ?_
                rotate_left
                · intro w'
                  go_simp
                  with_reducible rfl
                rotate_left
                · simp only [Act.put, List.setIfInBounds_toArray, List.set_cons_zero, List.set_cons_succ, i64_w, i32_w]
                  rfl
                refine pure_ (i := 5) (N := some 27) (v := ?_) (a' := ?_) #[true, true, true, true, true, true, false, false, false, false, false, false, false, false, false, false, false, false, false, false, false, false, false, false, false, false, false, false, false, false, false, false, false, false, false, false, false] rfl rfl (any_of HT_.out (by kernel_rfl)) (fun _ _ _ h => h) (Or.inl ⟨by rfl, ?_⟩) ?_ ?_
                rotate_left
                · intro w'
                  go_simp
                  with_reducible rfl
                rotate_left
                · simp only [Act.put, List.setIfInBounds_toArray, List.set_cons_zero, List.set_cons_succ, i64_w, i32_w]
                  rfl
                refine take_ (i := 6) (N := some 28) (v := ?_) (a' := ?_) #[true, true, true, true, true, true, true, false, false, false, false, false, false, false, false, false, false, false, false, false, false, false, false, false, false, false, false, false, false, false, false, false, false, false, false, false, false] rfl rfl (take_ofW HT_.out HW_.out (by kernel_rfl)) (fun _ _ _ h => h) (Or.inl ⟨by rfl, ?_⟩) hHeld ?_ ?_
                rotate_left
                · rintro w' ⟨s0, s1, s2, s3, s4, s5, s6, s7, s8⟩
                  go_simp
                  with_reducible rfl
                rotate_left
                · simp only [Act.put, List.setIfInBounds_toArray, List.set_cons_zero, List.set_cons_succ, i64_w, i32_w]
                  rfl
                refine take_ (i := 8) (N := some 30) (v := ?_) (a' := ?_) #[true, true, true, true, true, true, true, false, true, false, false, false, false, false, false, false, false, false, false, false, false, false, false, false, false, false, false, false, false, false, false, false, false, false, false, false, false] rfl rfl (take_ofW HT_.out HW_.out (by kernel_rfl)) (fun _ _ _ h => h) (Or.inl ⟨by rfl, ?_⟩) hHeld ?_ ?_
                rotate_left
                · rintro w' ⟨s0, s1, s2, s3, s4, s5, s6, s7, s8⟩
                  go_simp
                  with_reducible rfl
                rotate_left
                · simp only [Act.put, List.setIfInBounds_toArray, List.set_cons_zero, List.set_cons_succ, i64_w, i32_w]
                  rfl
                refine one_ (i := 7) (N := some 29) #[true, true, true, true, true, true, true, true, true, false, false, false, false, false, false, false, false, false, false, false, false, false, false, false, false, false, false, false, false, false, false, false, false, false, false, false, false] rfl rfl (one_of HT_.out (by kernel_rfl)) (by decide) (fun K hK => ?_)
                refine goes_ Tryd.func14 (by kernel_rfl) rfl #[.agg #[.int .i64 a0_0, .int .i64 a0_1, .string a0_2]] (by rfl) rfl rfl (by (try simp only [List.map_toArray, List.map_cons, List.map_nil]); first | done | rfl | (simp only [List.length_drop, List.length_take]; rfl)) ?_
                with_reducible refine (value_Type.calls a0_0 a0_1 a0_2 t219 _ A18.out).mono ?_
                rintro e w50 ⟨rfl, hb⟩
                refine ⟨_, rfl, ?_⟩
                have n0_ := Aside0.mk (Kd.R_below (by (with_reducible repeat (first | apply Kd.R_alloc | apply Kd.R_drewN | apply Kd.R_drew)); exact HO205.out) hb)
                have n1_ := Aside0.mk (blk_below (g := gb201) (o := .cells #[.int .i64 a0_0, .int .i64 a0_1, .string a0_2] 23 (0, 0)) (by (with_reducible repeat (first | refine blk_drewN ?_ _ | refine blk_drew ?_ | refine blk_alloc ?_ _)); exact BK201.out) hb)
                have n2_ := Aside0.mk (blk_below (g := gb211) (o := .cells #[.int .i64 t207, .int .i64 t208, .string t209] 23 (0, 0)) (by (with_reducible repeat (first | refine blk_drewN ?_ _ | refine blk_drew ?_ | refine blk_alloc ?_ _)); exact BK211.out) hb)
                have n3_ := Aside0.mk (blk_below (g := gb216) (o := .cells #[.int .i64 t212, .int .i64 t213, .string t214] 23 (0, 0)) (by (with_reducible repeat (first | refine blk_drewN ?_ _ | refine blk_drew ?_ | refine blk_alloc ?_ _)); exact BK216.out) hb)
                have n4_ := Aside0.mk (below_step (by repeat (first | (with_reducible first | exact HB.out | apply below_alloc | apply pw_below_drewN | apply below_drew1 | refine below_set ?_ GE201.out | refine below_set ?_ GE211.out | refine below_set ?_ GE216.out) | exact HB.out)) hb)
                clear HO205
                clear BK201
                clear BK211
                clear BK216
                clear HB
                have HO205 := n0_
                have BK201 := n1_
                have BK211 := n2_
                have BK216 := n3_
                have HB := n4_
                clear n0_ n1_ n2_ n3_ n4_
                (try clear hb)
                (try clear hb2)
                (try clear hk)
                (try clear hi)
                refine hK.out _ _ ⟨(blk_cell BK201.out 0).trans rfl, (blk_cell BK201.out 1).trans rfl, (blk_cell BK201.out 2).trans rfl, (blk_cell BK211.out 0).trans rfl, (blk_cell BK211.out 1).trans rfl, (blk_cell BK211.out 2).trans rfl, (blk_cell BK216.out 0).trans rfl, (blk_cell BK216.out 1).trans rfl, (blk_cell BK216.out 2).trans rfl⟩ (fun hHeld => ?_)
                clear hK K
                refine norm_ (a' := ?_) ?_ ?_
                rotate_left
                · show Act.put _ (some 29) _ = _
                  simp only [Act.put, List.setIfInBounds_toArray, List.set_cons_zero, List.set_cons_succ, i64_w, i32_w]
                  rfl
                refine one_ (i := 9) (N := some 31) #[true, true, true, true, true, true, true, true, true, true, false, false, false, false, false, false, false, false, false, false, false, false, false, false, false, false, false, false, false, false, false, false, false, false, false, false, false] rfl rfl (one_of HT_.out (by kernel_rfl)) (by decide) (fun K hK => ?_)
                refine goes_ Tryd.func15 (by kernel_rfl) rfl #[.agg #[.int .i64 a0_0, .int .i64 a0_1, .string a0_2]] (by rfl) rfl rfl (by (try simp only [List.map_toArray, List.map_cons, List.map_nil]); first | done | rfl | (simp only [List.length_drop, List.length_take]; rfl)) ?_
                with_reducible refine (selkieref01_Type.calls a0_0 a0_1 a0_2 t220 _ A19.out).mono ?_
                rintro e w51 ⟨rfl, hb⟩
                refine ⟨_, rfl, ?_⟩
                have n0_ := Aside0.mk (Kd.R_below (by (with_reducible repeat (first | apply Kd.R_alloc | apply Kd.R_drewN | apply Kd.R_drew)); exact HO205.out) hb)
                have n1_ := Aside0.mk (blk_below (g := gb201) (o := .cells #[.int .i64 a0_0, .int .i64 a0_1, .string a0_2] 23 (0, 0)) (by (with_reducible repeat (first | refine blk_drewN ?_ _ | refine blk_drew ?_ | refine blk_alloc ?_ _)); exact BK201.out) hb)
                have n2_ := Aside0.mk (blk_below (g := gb211) (o := .cells #[.int .i64 t207, .int .i64 t208, .string t209] 23 (0, 0)) (by (with_reducible repeat (first | refine blk_drewN ?_ _ | refine blk_drew ?_ | refine blk_alloc ?_ _)); exact BK211.out) hb)
                have n3_ := Aside0.mk (blk_below (g := gb216) (o := .cells #[.int .i64 t212, .int .i64 t213, .string t214] 23 (0, 0)) (by (with_reducible repeat (first | refine blk_drewN ?_ _ | refine blk_drew ?_ | refine blk_alloc ?_ _)); exact BK216.out) hb)
                have n4_ := Aside0.mk (below_step (by repeat (first | (with_reducible first | exact HB.out | apply below_alloc | apply pw_below_drewN | apply below_drew1 | refine below_set ?_ GE201.out | refine below_set ?_ GE211.out | refine below_set ?_ GE216.out) | exact HB.out)) hb)
                clear HO205
                clear BK201
                clear BK211
                clear BK216
                clear HB
                have HO205 := n0_
                have BK201 := n1_
                have BK211 := n2_
                have BK216 := n3_
                have HB := n4_
                clear n0_ n1_ n2_ n3_ n4_
                (try clear hb)
                (try clear hb2)
                (try clear hk)
                (try clear hi)
                refine hK.out _ _ ⟨(blk_cell BK201.out 0).trans rfl, (blk_cell BK201.out 1).trans rfl, (blk_cell BK201.out 2).trans rfl, (blk_cell BK211.out 0).trans rfl, (blk_cell BK211.out 1).trans rfl, (blk_cell BK211.out 2).trans rfl, (blk_cell BK216.out 0).trans rfl, (blk_cell BK216.out 1).trans rfl, (blk_cell BK216.out 2).trans rfl⟩ (fun hHeld => ?_)
                clear hK K
                refine norm_ (a' := ?_) ?_ ?_
                rotate_left
                · show Act.put _ (some 31) _ = _
                  simp only [Act.put, List.setIfInBounds_toArray, List.set_cons_zero, List.set_cons_succ, i64_w, i32_w]
                  rfl
                refine pure_ (i := 10) (N := some 32) (v := ?_) (a' := ?_) #[true, true, true, true, true, true, true, true, true, true, true, false, false, false, false, false, false, false, false, false, false, false, false, false, false, false, false, false, false, false, false, false, false, false, false, false, false] rfl rfl (any_of HT_.out (by kernel_rfl)) (fun _ _ _ h => h) (Or.inl ⟨by rfl, ?_⟩) ?_ ?_
                rotate_left
                · intro w'
                  go_simp
                  with_reducible rfl
                rotate_left
                · simp only [Act.put, List.setIfInBounds_toArray, List.set_cons_zero, List.set_cons_succ, i64_w, i32_w]
                  rfl
                refine pure_ (i := 11) (N := some 33) (v := ?_) (a' := ?_) #[true, true, true, true, true, true, true, true, true, true, true, true, false, false, false, false, false, false, false, false, false, false, false, false, false, false, false, false, false, false, false, false, false, false, false, false, false] rfl rfl (any_of HT_.out (by kernel_rfl)) (fun _ _ _ h => h) (Or.inl ⟨by rfl, ?_⟩) ?_ ?_
                rotate_left
                · intro w'
                  go_simp
                  with_reducible rfl
                rotate_left
                · simp only [Act.put, List.setIfInBounds_toArray, List.set_cons_zero, List.set_cons_succ, i64_w, i32_w]
                  rfl
                refine pure_ (i := 12) (N := some 34) (v := ?_) (a' := ?_) #[true, true, true, true, true, true, true, true, true, true, true, true, true, false, false, false, false, false, false, false, false, false, false, false, false, false, false, false, false, false, false, false, false, false, false, false, false] rfl rfl (any_of HT_.out (by kernel_rfl)) (fun _ _ _ h => h) (Or.inl ⟨by rfl, ?_⟩) ?_ ?_
                rotate_left
                · intro w'
                  go_simp
                  with_reducible rfl
                rotate_left
                · simp only [Act.put, List.setIfInBounds_toArray, List.set_cons_zero, List.set_cons_succ, i64_w, i32_w]
                  rfl
                refine take_ (i := 13) (N := some 35) (v := ?_) (a' := ?_) #[true, true, true, true, true, true, true, true, true, true, true, true, true, true, false, false, false, false, false, false, false, false, false, false, false, false, false, false, false, false, false, false, false, false, false, false, false] rfl rfl (take_ofW HT_.out HW_.out (by kernel_rfl)) (fun _ _ _ h => h) (Or.inl ⟨by rfl, ?_⟩) hHeld ?_ ?_
                rotate_left
                · rintro w' ⟨s0, s1, s2, s3, s4, s5, s6, s7, s8⟩
                  go_simp
                  with_reducible rfl
                rotate_left
                · simp only [Act.put, List.setIfInBounds_toArray, List.set_cons_zero, List.set_cons_succ, i64_w, i32_w]
                  rfl
                refine take_ (i := 15) (N := some 37) (v := ?_) (a' := ?_) #[true, true, true, true, true, true, true, true, true, true, true, true, true, true, false, true, false, false, false, false, false, false, false, false, false, false, false, false, false, false, false, false, false, false, false, false, false] rfl rfl (take_ofW HT_.out HW_.out (by kernel_rfl)) (fun _ _ _ h => h) (Or.inl ⟨by rfl, ?_⟩) hHeld ?_ ?_
                rotate_left
                · rintro w' ⟨s0, s1, s2, s3, s4, s5, s6, s7, s8⟩
                  go_simp
                  with_reducible rfl
                rotate_left
                · simp only [Act.put, List.setIfInBounds_toArray, List.set_cons_zero, List.set_cons_succ, i64_w, i32_w]
                  rfl
                refine one_ (i := 14) (N := some 36) #[true, true, true, true, true, true, true, true, true, true, true, true, true, true, true, true, false, false, false, false, false, false, false, false, false, false, false, false, false, false, false, false, false, false, false, false, false] rfl rfl (one_of HT_.out (by kernel_rfl)) (by decide) (fun K hK => ?_)
                refine goes_ Tryd.func16 (by kernel_rfl) rfl #[.agg #[.int .i64 a0_0, .int .i64 a0_1, .string a0_2]] (by rfl) rfl rfl (by (try simp only [List.map_toArray, List.map_cons, List.map_nil]); first | done | rfl | (simp only [List.length_drop, List.length_take]; rfl)) ?_
                with_reducible refine (value_Print.calls a0_0 a0_1 a0_2 t221 _ (HTT.out.on (by repeat (first | (with_reducible first | exact HB.out | apply below_alloc | apply pw_below_drewN | apply below_drew1 | refine below_set ?_ GE201.out | refine below_set ?_ GE211.out | refine below_set ?_ GE216.out) | exact HB.out))) A21.out).mono ?_
                rintro e w52 ⟨rfl, hb⟩
                refine ⟨_, rfl, ?_⟩
                have n0_ := Aside0.mk (Kd.R_below (by (with_reducible repeat (first | apply Kd.R_alloc | apply Kd.R_drewN | apply Kd.R_drew)); exact HO205.out) hb)
                have n1_ := Aside0.mk (blk_below (g := gb201) (o := .cells #[.int .i64 a0_0, .int .i64 a0_1, .string a0_2] 23 (0, 0)) (by (with_reducible repeat (first | refine blk_drewN ?_ _ | refine blk_drew ?_ | refine blk_alloc ?_ _)); exact BK201.out) hb)
                have n2_ := Aside0.mk (blk_below (g := gb211) (o := .cells #[.int .i64 t207, .int .i64 t208, .string t209] 23 (0, 0)) (by (with_reducible repeat (first | refine blk_drewN ?_ _ | refine blk_drew ?_ | refine blk_alloc ?_ _)); exact BK211.out) hb)
                have n3_ := Aside0.mk (blk_below (g := gb216) (o := .cells #[.int .i64 t212, .int .i64 t213, .string t214] 23 (0, 0)) (by (with_reducible repeat (first | refine blk_drewN ?_ _ | refine blk_drew ?_ | refine blk_alloc ?_ _)); exact BK216.out) hb)
                have n4_ := Aside0.mk (below_step (by repeat (first | (with_reducible first | exact HB.out | apply below_alloc | apply pw_below_drewN | apply below_drew1 | refine below_set ?_ GE201.out | refine below_set ?_ GE211.out | refine below_set ?_ GE216.out) | exact HB.out)) hb)
                clear HO205
                clear BK201
                clear BK211
                clear BK216
                clear HB
                have HO205 := n0_
                have BK201 := n1_
                have BK211 := n2_
                have BK216 := n3_
                have HB := n4_
                clear n0_ n1_ n2_ n3_ n4_
                (try clear hb)
                (try clear hb2)
                (try clear hk)
                (try clear hi)
                refine hK.out _ _ ⟨(blk_cell BK201.out 0).trans rfl, (blk_cell BK201.out 1).trans rfl, (blk_cell BK201.out 2).trans rfl, (blk_cell BK211.out 0).trans rfl, (blk_cell BK211.out 1).trans rfl, (blk_cell BK211.out 2).trans rfl, (blk_cell BK216.out 0).trans rfl, (blk_cell BK216.out 1).trans rfl, (blk_cell BK216.out 2).trans rfl⟩ (fun hHeld => ?_)
                clear hK K
                refine norm_ (a' := ?_) ?_ ?_
                rotate_left
                · show Act.put _ (some 36) _ = _
                  simp only [Act.put, List.setIfInBounds_toArray, List.set_cons_zero, List.set_cons_succ, i64_w, i32_w]
                  rfl
                refine one_ (i := 16) (N := some 38) #[true, true, true, true, true, true, true, true, true, true, true, true, true, true, true, true, true, false, false, false, false, false, false, false, false, false, false, false, false, false, false, false, false, false, false, false, false] rfl rfl (one_of HT_.out (by kernel_rfl)) (by decide) (fun K hK => ?_)
                refine goes_ Tryd.func17 (by kernel_rfl) rfl #[.agg #[.int .i64 a0_0, .int .i64 a0_1, .string a0_2]] (by rfl) rfl rfl (by (try simp only [List.map_toArray, List.map_cons, List.map_nil]); first | done | rfl | (simp only [List.length_drop, List.length_take]; rfl)) ?_
                with_reducible refine (selkieref01_Print.calls k a0_0 a0_1 a0_2 t222 _ A22.out).mono ?_
                rintro e w53 ⟨rfl, hb⟩
                refine ⟨_, rfl, ?_⟩
                have n0_ := Aside0.mk (Kd.R_below (by (with_reducible repeat (first | apply Kd.R_alloc | apply Kd.R_drewN | apply Kd.R_drew)); exact HO205.out) hb)
                have n1_ := Aside0.mk (blk_below (g := gb201) (o := .cells #[.int .i64 a0_0, .int .i64 a0_1, .string a0_2] 23 (0, 0)) (by (with_reducible repeat (first | refine blk_drewN ?_ _ | refine blk_drew ?_ | refine blk_alloc ?_ _)); exact BK201.out) hb)
                have n2_ := Aside0.mk (blk_below (g := gb211) (o := .cells #[.int .i64 t207, .int .i64 t208, .string t209] 23 (0, 0)) (by (with_reducible repeat (first | refine blk_drewN ?_ _ | refine blk_drew ?_ | refine blk_alloc ?_ _)); exact BK211.out) hb)
                have n3_ := Aside0.mk (blk_below (g := gb216) (o := .cells #[.int .i64 t212, .int .i64 t213, .string t214] 23 (0, 0)) (by (with_reducible repeat (first | refine blk_drewN ?_ _ | refine blk_drew ?_ | refine blk_alloc ?_ _)); exact BK216.out) hb)
                have n4_ := Aside0.mk (below_step (by repeat (first | (with_reducible first | exact HB.out | apply below_alloc | apply pw_below_drewN | apply below_drew1 | refine below_set ?_ GE201.out | refine below_set ?_ GE211.out | refine below_set ?_ GE216.out) | exact HB.out)) hb)
                clear HO205
                clear BK201
                clear BK211
                clear BK216
                clear HB
                have HO205 := n0_
                have BK201 := n1_
                have BK211 := n2_
                have BK216 := n3_
                have HB := n4_
                clear n0_ n1_ n2_ n3_ n4_
                (try clear hb)
                (try clear hb2)
                (try clear hk)
                (try clear hi)
                refine hK.out _ _ ⟨(blk_cell BK201.out 0).trans rfl, (blk_cell BK201.out 1).trans rfl, (blk_cell BK201.out 2).trans rfl, (blk_cell BK211.out 0).trans rfl, (blk_cell BK211.out 1).trans rfl, (blk_cell BK211.out 2).trans rfl, (blk_cell BK216.out 0).trans rfl, (blk_cell BK216.out 1).trans rfl, (blk_cell BK216.out 2).trans rfl⟩ (fun hHeld => ?_)
                clear hK K
                refine norm_ (a' := ?_) ?_ ?_
                rotate_left
                · show Act.put _ (some 38) _ = _
                  simp only [Act.put, List.setIfInBounds_toArray, List.set_cons_zero, List.set_cons_succ, i64_w, i32_w]
                  rfl
                refine pure_ (i := 17) (N := some 39) (v := ?_) (a' := ?_) #[true, true, true, true, true, true, true, true, true, true, true, true, true, true, true, true, true, true, false, false, false, false, false, false, false, false, false, false, false, false, false, false, false, false, false, false, false] rfl rfl (any_of HT_.out (by kernel_rfl)) (fun _ _ _ h => h) (Or.inl ⟨by rfl, ?_⟩) ?_ ?_
                rotate_left
                · intro w'
                  go_simp
                  with_reducible rfl
                rotate_left
                · simp only [Act.put, List.setIfInBounds_toArray, List.set_cons_zero, List.set_cons_succ, i64_w, i32_w]
                  rfl
                refine pure_ (i := 18) (N := some 40) (v := ?_) (a' := ?_) #[true, true, true, true, true, true, true, true, true, true, true, true, true, true, true, true, true, true, true, false, false, false, false, false, false, false, false, false, false, false, false, false, false, false, false, false, false] rfl rfl (any_of HT_.out (by kernel_rfl)) (fun _ _ _ h => h) (Or.inl ⟨by rfl, ?_⟩) ?_ ?_
                rotate_left
                · intro w'
                  go_simp
                  with_reducible rfl
                rotate_left
                · simp only [Act.put, List.setIfInBounds_toArray, List.set_cons_zero, List.set_cons_succ, i64_w, i32_w]
                  rfl
                refine pure_ (i := 19) (N := some 41) (v := ?_) (a' := ?_) #[true, true, true, true, true, true, true, true, true, true, true, true, true, true, true, true, true, true, true, true, false, false, false, false, false, false, false, false, false, false, false, false, false, false, false, false, false] rfl rfl (any_of HT_.out (by kernel_rfl)) (fun _ _ _ h => h) (Or.inl ⟨by rfl, ?_⟩) ?_ ?_
                rotate_left
                · intro w'
                  go_simp
                  with_reducible rfl
                rotate_left
                · simp only [Act.put, List.setIfInBounds_toArray, List.set_cons_zero, List.set_cons_succ, i64_w, i32_w]
                  rfl
                refine take_ (i := 20) (N := some 42) (v := ?_) (a' := ?_) #[true, true, true, true, true, true, true, true, true, true, true, true, true, true, true, true, true, true, true, true, true, false, false, false, false, false, false, false, false, false, false, false, false, false, false, false, false] rfl rfl (take_ofW HT_.out HW_.out (by kernel_rfl)) (fun _ _ _ h => h) (Or.inl ⟨by rfl, ?_⟩) hHeld ?_ ?_
                rotate_left
                · rintro w' ⟨s0, s1, s2, s3, s4, s5, s6, s7, s8⟩
                  go_simp
                  with_reducible rfl
                rotate_left
                · simp only [Act.put, List.setIfInBounds_toArray, List.set_cons_zero, List.set_cons_succ, i64_w, i32_w]
                  rfl
                refine take_ (i := 22) (N := some 44) (v := ?_) (a' := ?_) #[true, true, true, true, true, true, true, true, true, true, true, true, true, true, true, true, true, true, true, true, true, false, true, false, false, false, false, false, false, false, false, false, false, false, false, false, false] rfl rfl (take_ofW HT_.out HW_.out (by kernel_rfl)) (fun _ _ _ h => h) (Or.inl ⟨by rfl, ?_⟩) hHeld ?_ ?_
                rotate_left
                · rintro w' ⟨s0, s1, s2, s3, s4, s5, s6, s7, s8⟩
                  go_simp
                  with_reducible rfl
                rotate_left
                · simp only [Act.put, List.setIfInBounds_toArray, List.set_cons_zero, List.set_cons_succ, i64_w, i32_w]
                  rfl
                refine one_ (i := 21) (N := some 43) #[true, true, true, true, true, true, true, true, true, true, true, true, true, true, true, true, true, true, true, true, true, true, true, false, false, false, false, false, false, false, false, false, false, false, false, false, false] rfl rfl (one_of HT_.out (by kernel_rfl)) (by decide) (fun K hK => ?_)
                refine goes_ Tryd.func18 (by kernel_rfl) rfl #[.agg #[.int .i64 a0_0, .int .i64 a0_1, .string a0_2]] (by rfl) rfl rfl (by (try simp only [List.map_toArray, List.map_cons, List.map_nil]); first | done | rfl | (simp only [List.length_drop, List.length_take]; rfl)) ?_
                with_reducible refine (value_Own.calls a0_0 a0_1 a0_2 t223 t224 t225 _ A24.out).mono ?_
                rintro e w54 ⟨rfl, hb⟩
                refine ⟨_, rfl, ?_⟩
                have n0_ := Aside0.mk (Kd.R_below (by (with_reducible repeat (first | apply Kd.R_alloc | apply Kd.R_drewN | apply Kd.R_drew)); exact HO205.out) hb)
                have n1_ := Aside0.mk (blk_below (g := gb201) (o := .cells #[.int .i64 a0_0, .int .i64 a0_1, .string a0_2] 23 (0, 0)) (by (with_reducible repeat (first | refine blk_drewN ?_ _ | refine blk_drew ?_ | refine blk_alloc ?_ _)); exact BK201.out) hb)
                have n2_ := Aside0.mk (blk_below (g := gb211) (o := .cells #[.int .i64 t207, .int .i64 t208, .string t209] 23 (0, 0)) (by (with_reducible repeat (first | refine blk_drewN ?_ _ | refine blk_drew ?_ | refine blk_alloc ?_ _)); exact BK211.out) hb)
                have n3_ := Aside0.mk (blk_below (g := gb216) (o := .cells #[.int .i64 t212, .int .i64 t213, .string t214] 23 (0, 0)) (by (with_reducible repeat (first | refine blk_drewN ?_ _ | refine blk_drew ?_ | refine blk_alloc ?_ _)); exact BK216.out) hb)
                have n4_ := Aside0.mk (below_step (by repeat (first | (with_reducible first | exact HB.out | apply below_alloc | apply pw_below_drewN | apply below_drew1 | refine below_set ?_ GE201.out | refine below_set ?_ GE211.out | refine below_set ?_ GE216.out) | exact HB.out)) hb)
                clear HO205
                clear BK201
                clear BK211
                clear BK216
                clear HB
                have HO205 := n0_
                have BK201 := n1_
                have BK211 := n2_
                have BK216 := n3_
                have HB := n4_
                clear n0_ n1_ n2_ n3_ n4_
                (try clear hb)
                (try clear hb2)
                (try clear hk)
                (try clear hi)
                refine hK.out _ _ ⟨(blk_cell BK201.out 0).trans rfl, (blk_cell BK201.out 1).trans rfl, (blk_cell BK201.out 2).trans rfl, (blk_cell BK211.out 0).trans rfl, (blk_cell BK211.out 1).trans rfl, (blk_cell BK211.out 2).trans rfl, (blk_cell BK216.out 0).trans rfl, (blk_cell BK216.out 1).trans rfl, (blk_cell BK216.out 2).trans rfl⟩ (fun hHeld => ?_)
                clear hK K
                refine norm_ (a' := ?_) ?_ ?_
                rotate_left
                · show Act.put _ (some 43) _ = _
                  simp only [Act.put, List.setIfInBounds_toArray, List.set_cons_zero, List.set_cons_succ, i64_w, i32_w]
                  rfl
                refine one_ (i := 23) (N := some 45) #[true, true, true, true, true, true, true, true, true, true, true, true, true, true, true, true, true, true, true, true, true, true, true, true, false, false, false, false, false, false, false, false, false, false, false, false, false] rfl rfl (one_of HT_.out (by kernel_rfl)) (by decide) (fun K hK => ?_)
                refine goes_ Tryd.func19 (by kernel_rfl) rfl #[.agg #[.int .i64 a0_0, .int .i64 a0_1, .string a0_2]] (by rfl) rfl rfl (by (try simp only [List.map_toArray, List.map_cons, List.map_nil]); first | done | rfl | (simp only [List.length_drop, List.length_take]; rfl)) ?_
                with_reducible refine (selkieref01_Own.calls k a0_0 a0_1 a0_2 t226 t227 t228 _ A25.out).mono ?_
                rintro e w55 ⟨rfl, hb⟩
                refine ⟨_, rfl, ?_⟩
                have n0_ := Aside0.mk (Kd.R_below (by (with_reducible repeat (first | apply Kd.R_alloc | apply Kd.R_drewN | apply Kd.R_drew)); exact HO205.out) hb)
                have n1_ := Aside0.mk (blk_below (g := gb201) (o := .cells #[.int .i64 a0_0, .int .i64 a0_1, .string a0_2] 23 (0, 0)) (by (with_reducible repeat (first | refine blk_drewN ?_ _ | refine blk_drew ?_ | refine blk_alloc ?_ _)); exact BK201.out) hb)
                have n2_ := Aside0.mk (blk_below (g := gb211) (o := .cells #[.int .i64 t207, .int .i64 t208, .string t209] 23 (0, 0)) (by (with_reducible repeat (first | refine blk_drewN ?_ _ | refine blk_drew ?_ | refine blk_alloc ?_ _)); exact BK211.out) hb)
                have n3_ := Aside0.mk (blk_below (g := gb216) (o := .cells #[.int .i64 t212, .int .i64 t213, .string t214] 23 (0, 0)) (by (with_reducible repeat (first | refine blk_drewN ?_ _ | refine blk_drew ?_ | refine blk_alloc ?_ _)); exact BK216.out) hb)
                have n4_ := Aside0.mk (below_step (by repeat (first | (with_reducible first | exact HB.out | apply below_alloc | apply pw_below_drewN | apply below_drew1 | refine below_set ?_ GE201.out | refine below_set ?_ GE211.out | refine below_set ?_ GE216.out) | exact HB.out)) hb)
                clear HO205
                clear BK201
                clear BK211
                clear BK216
                clear HB
                have HO205 := n0_
                have BK201 := n1_
                have BK211 := n2_
                have BK216 := n3_
                have HB := n4_
                clear n0_ n1_ n2_ n3_ n4_
                (try clear hb)
                (try clear hb2)
                (try clear hk)
                (try clear hi)
                refine hK.out _ _ ⟨(blk_cell BK201.out 0).trans rfl, (blk_cell BK201.out 1).trans rfl, (blk_cell BK201.out 2).trans rfl, (blk_cell BK211.out 0).trans rfl, (blk_cell BK211.out 1).trans rfl, (blk_cell BK211.out 2).trans rfl, (blk_cell BK216.out 0).trans rfl, (blk_cell BK216.out 1).trans rfl, (blk_cell BK216.out 2).trans rfl⟩ (fun hHeld => ?_)
                clear hK K
                refine norm_ (a' := ?_) ?_ ?_
                rotate_left
                · show Act.put _ (some 45) _ = _
                  simp only [Act.put, List.setIfInBounds_toArray, List.set_cons_zero, List.set_cons_succ, i64_w, i32_w]
                  rfl
                refine pure_ (i := 24) (N := some 46) (v := ?_) (a' := ?_) #[true, true, true, true, true, true, true, true, true, true, true, true, true, true, true, true, true, true, true, true, true, true, true, true, true, false, false, false, false, false, false, false, false, false, false, false, false] rfl rfl (any_of HT_.out (by kernel_rfl)) (fun _ _ _ h => h) (Or.inl ⟨by rfl, ?_⟩) ?_ ?_
                rotate_left
                · intro w'
                  go_simp
                  with_reducible rfl
                rotate_left
                · simp only [Act.put, List.setIfInBounds_toArray, List.set_cons_zero, List.set_cons_succ, i64_w, i32_w]
                  rfl
                refine pure_ (i := 25) (N := some 47) (v := ?_) (a' := ?_) #[true, true, true, true, true, true, true, true, true, true, true, true, true, true, true, true, true, true, true, true, true, true, true, true, true, true, false, false, false, false, false, false, false, false, false, false, false] rfl rfl (any_of HT_.out (by kernel_rfl)) (fun _ _ _ h => h) (Or.inl ⟨by rfl, ?_⟩) ?_ ?_
                rotate_left
                · intro w'
                  go_simp
                  with_reducible rfl
                rotate_left
                · simp only [Act.put, List.setIfInBounds_toArray, List.set_cons_zero, List.set_cons_succ, i64_w, i32_w]
                  rfl
                refine pure_ (i := 26) (N := some 48) (v := ?_) (a' := ?_) #[true, true, true, true, true, true, true, true, true, true, true, true, true, true, true, true, true, true, true, true, true, true, true, true, true, true, true, false, false, false, false, false, false, false, false, false, false] rfl rfl (any_of HT_.out (by kernel_rfl)) (fun _ _ _ h => h) (Or.inl ⟨by rfl, ?_⟩) ?_ ?_
                rotate_left
                · intro w'
                  go_simp
                  with_reducible rfl
                rotate_left
                · simp only [Act.put, List.setIfInBounds_toArray, List.set_cons_zero, List.set_cons_succ, i64_w, i32_w]
                  rfl
                refine take_ (i := 27) (N := some 49) (v := ?_) (a' := ?_) #[true, true, true, true, true, true, true, true, true, true, true, true, true, true, true, true, true, true, true, true, true, true, true, true, true, true, true, true, false, false, false, false, false, false, false, false, false] rfl rfl (take_ofW HT_.out HW_.out (by kernel_rfl)) (fun _ _ _ h => h) (Or.inl ⟨by rfl, ?_⟩) hHeld ?_ ?_
                rotate_left
                · rintro w' ⟨s0, s1, s2, s3, s4, s5, s6, s7, s8⟩
                  go_simp
                  with_reducible rfl
                rotate_left
                · simp only [Act.put, List.setIfInBounds_toArray, List.set_cons_zero, List.set_cons_succ, i64_w, i32_w]
                  rfl
                refine take_ (i := 28) (N := some 50) (v := ?_) (a' := ?_) #[true, true, true, true, true, true, true, true, true, true, true, true, true, true, true, true, true, true, true, true, true, true, true, true, true, true, true, true, true, false, false, false, false, false, false, false, false] rfl rfl (take_ofW HT_.out HW_.out (by kernel_rfl)) (fun _ _ _ h => h) (Or.inl ⟨by rfl, ?_⟩) hHeld ?_ ?_
                rotate_left
                · rintro w' ⟨s0, s1, s2, s3, s4, s5, s6, s7, s8⟩
                  go_simp
                  with_reducible rfl
                rotate_left
                · simp only [Act.put, List.setIfInBounds_toArray, List.set_cons_zero, List.set_cons_succ, i64_w, i32_w]
                  rfl
                refine pure_ (i := 29) (N := some 51) (v := ?_) (a' := ?_) #[true, true, true, true, true, true, true, true, true, true, true, true, true, true, true, true, true, true, true, true, true, true, true, true, true, true, true, true, true, true, false, false, false, false, false, false, false] rfl rfl (any_of HT_.out (by kernel_rfl)) (fun _ _ _ h => h) (Or.inl ⟨by rfl, ?_⟩) ?_ ?_
                rotate_left
                · intro w'
                  go_simp
                  with_reducible rfl
                rotate_left
                · simp only [Act.put, List.setIfInBounds_toArray, List.set_cons_zero, List.set_cons_succ, i64_w, i32_w]
                  rfl
                refine pure_ (i := 30) (N := some 52) (v := ?_) (a' := ?_) #[true, true, true, true, true, true, true, true, true, true, true, true, true, true, true, true, true, true, true, true, true, true, true, true, true, true, true, true, true, true, true, false, false, false, false, false, false] rfl rfl (any_of HT_.out (by kernel_rfl)) (fun _ _ _ h => h) (Or.inl ⟨by rfl, ?_⟩) ?_ ?_
                rotate_left
                · intro w'
                  go_simp
                  with_reducible rfl
                rotate_left
                · simp only [Act.put, List.setIfInBounds_toArray, List.set_cons_zero, List.set_cons_succ, i64_w, i32_w]
                  rfl
                refine pure_ (i := 31) (N := some 53) (v := ?_) (a' := ?_) #[true, true, true, true, true, true, true, true, true, true, true, true, true, true, true, true, true, true, true, true, true, true, true, true, true, true, true, true, true, true, true, true, false, false, false, false, false] rfl rfl (any_of HT_.out (by kernel_rfl)) (fun _ _ _ h => h) (Or.inl ⟨by rfl, ?_⟩) ?_ ?_
                rotate_left
                · intro w'
                  go_simp
                  with_reducible rfl
                rotate_left
                · simp only [Act.put, List.setIfInBounds_toArray, List.set_cons_zero, List.set_cons_succ, i64_w, i32_w]
                  rfl
                refine pure_ (i := 32) (N := some 54) (v := ?_) (a' := ?_) #[true, true, true, true, true, true, true, true, true, true, true, true, true, true, true, true, true, true, true, true, true, true, true, true, true, true, true, true, true, true, true, true, true, false, false, false, false] rfl rfl (any_of HT_.out (by kernel_rfl)) (fun _ _ _ h => h) (Or.inl ⟨by rfl, ?_⟩) ?_ ?_
                rotate_left
                · intro w'
                  go_simp
                  with_reducible rfl
                rotate_left
                · simp only [Act.put, List.setIfInBounds_toArray, List.set_cons_zero, List.set_cons_succ, i64_w, i32_w]
                  rfl
                refine pure_ (i := 33) (N := some 55) (v := ?_) (a' := ?_) #[true, true, true, true, true, true, true, true, true, true, true, true, true, true, true, true, true, true, true, true, true, true, true, true, true, true, true, true, true, true, true, true, true, true, false, false, false] rfl rfl (any_of HT_.out (by kernel_rfl)) (fun _ _ _ h => h) (Or.inl ⟨by rfl, ?_⟩) ?_ ?_
                rotate_left
                · intro w'
                  go_simp
                  with_reducible rfl
                rotate_left
                · simp only [Act.put, List.setIfInBounds_toArray, List.set_cons_zero, List.set_cons_succ, i64_w, i32_w]
                  rfl
                refine pure_ (i := 34) (N := some 56) (v := ?_) (a' := ?_) #[true, true, true, true, true, true, true, true, true, true, true, true, true, true, true, true, true, true, true, true, true, true, true, true, true, true, true, true, true, true, true, true, true, true, true, false, false] rfl rfl (any_of HT_.out (by kernel_rfl)) (fun _ _ _ h => h) (Or.inl ⟨by rfl, ?_⟩) ?_ ?_
                rotate_left
                · intro w'
                  go_simp
                  with_reducible rfl
                rotate_left
                · simp only [Act.put, List.setIfInBounds_toArray, List.set_cons_zero, List.set_cons_succ, i64_w, i32_w]
                  rfl
                refine pure_ (i := 35) (N := some 57) (v := ?_) (a' := ?_) #[true, true, true, true, true, true, true, true, true, true, true, true, true, true, true, true, true, true, true, true, true, true, true, true, true, true, true, true, true, true, true, true, true, true, true, true, false] rfl rfl (any_of HT_.out (by kernel_rfl)) (fun _ _ _ h => h) (Or.inl ⟨by rfl, ?_⟩) ?_ ?_
                rotate_left
                · intro w'
                  go_simp
                  with_reducible rfl
                rotate_left
                · simp only [Act.put, List.setIfInBounds_toArray, List.set_cons_zero, List.set_cons_succ, i64_w, i32_w]
                  rfl
                refine pure_ (i := 36) (N := some 2) (v := ?_) (a' := ?_) #[true, true, true, true, true, true, true, true, true, true, true, true, true, true, true, true, true, true, true, true, true, true, true, true, true, true, true, true, true, true, true, true, true, true, true, true, true] rfl rfl (any_of HT_.out (by kernel_rfl)) (fun _ _ _ h => h) (Or.inl ⟨by rfl, ?_⟩) ?_ ?_
                rotate_left
                · intro w'
                  go_simp
                  with_reducible rfl
                rotate_left
                · simp only [Act.put, List.setIfInBounds_toArray, List.set_cons_zero, List.set_cons_succ, i64_w, i32_w]
                  rfl
                refine done_ (done_of HT_.out (by kernel_rfl)) ?_
                try go_wp2
                go_ret
                exact ⟨by first | rfl | (simp [errW_none, errW_some] <;> rfl) | (simp [*, errW_none, errW_some] <;> rfl), by repeat (first | (with_reducible first | exact HB.out | apply below_alloc | apply pw_below_drewN | apply below_drew1 | refine below_set ?_ GE201.out | refine below_set ?_ GE211.out | refine below_set ?_ GE216.out) | exact HB.out)⟩
              · rw [if_neg c27] at H
                have c27b0 : (t207 == t212 && (t208 == t213 && (t209.toList == t214.toList))) = false := by simpa using c27
                (try (have c27b1 : decide (t207 = t212 && (t208 == t213 && (t209.toList == t214.toList))) = false := by simpa using c27))
                (try (have c27b2 : (t207 == t212 && (t208 == t213 && (t209.toList == t214.toList))) = false := by simpa using c27))
                (try (have c27b3 : ¬ (t207 = t212 && (t208 == t213 && (t209.toList == t214.toList))) := by simpa using c27))
                clear c27
                exact absurd (Option.some.inj H) (by rw [HR.out]; decide)
            · rw [if_neg c26] at H
              have c26b0 : (t223 == t226 && (t224 == t227 && (t225.toList == t228.toList))) = false := by simpa using c26
              (try (have c26b1 : decide (t223 = t226 && (t224 == t227 && (t225.toList == t228.toList))) = false := by simpa using c26))
              (try (have c26b2 : (t223 == t226 && (t224 == t227 && (t225.toList == t228.toList))) = false := by simpa using c26))
              (try (have c26b3 : ¬ (t223 = t226 && (t224 == t227 && (t225.toList == t228.toList))) := by simpa using c26))
              clear c26
              exact absurd (Option.some.inj H) (by rw [HR.out]; decide)
          · rw [if_neg c23] at H
            have c23b0 : (t221.toList == t222.toList) = false := beq_eq_false_iff_ne.mpr c23
            have c23b1 : (t221.toList != t222.toList) = true := bne_iff_ne.mpr c23
            exact absurd (Option.some.inj H) (by rw [HR.out]; decide)
        · rw [if_neg c20] at H
          have c20b0 : (t219.toList == t220.toList) = false := beq_eq_false_iff_ne.mpr c20
          have c20b1 : (t219.toList != t220.toList) = true := bne_iff_ne.mpr c20
          exact absurd (Option.some.inj H) (by rw [HR.out]; decide)
      · rw [if_neg c17] at H
        have c17b0 : (t217 == t218) = false := by simpa using c17
        (try (have c17b1 : decide (t217 = t218) = false := by simpa using c17))
        (try (have c17b2 : (t217 == t218) = false := by simpa using c17))
        (try (have c17b3 : ¬ (t217 = t218) := by simpa using c17))
        clear c17
        exact absurd (Option.some.inj H) (by rw [HR.out]; decide)
  · replace c3 := Bool.eq_false_iff.mpr c3
    subst c3
    have H1 : (some false) = some r := by rw [if_neg (show ¬ (false = true) by decide)] at H; exact H
    clear H
    have H := H1
    clear H1
    exact absurd (Option.some.inj H) (by rw [HR.out]; decide)

end Go.Proofs.YtbmenmcjlidadaaDoor.PAll
