-- printed by a call of the kit's print.py over several functions of this seat (wip/pr.sh)
import Derived.Test.YtpgpmldaggpciaaDoorPWox0
import Derived.Test.YtpgpmldaggpciaaDoorPWox1
namespace Go.Proofs.YtpgpmldaggpciaaDoor.PWo
open Go.RowKit Go.Proofs.YtpgpmldaggpciaaDoorW.PrintWords Go.Proofs.YtpgpmldaggpciaaDoorW.PrintLast Go.Proofs.YtpgpmldaggpciaaDoorW.PrintMore
attribute [local go_sem] max2_int min2_int max_two min_two max_three min_three max_four min_four   -- for this text's walks alone
set_option linter.unusedVariables false
set_option linter.unusedSimpArgs false

/-! ### selkieref10_Concat: function 27 -/
def selkieref10_Concat.f (a0_0 : Int) (a0_1 : Int) (a0_2 : ByteArray) (a1_0 : Int) (a1_1 : Int) (a1_2 : ByteArray) : Option (ByteArray) := (selkieref03_String.f a0_0 a0_1 a0_2).bind fun bt151 => (if bt151.2 = true then ((selkieref01_Type.f a1_0 a1_1 a1_2).bind fun t153 => (if 25 + t153.size ≤ 9223372036854775807 then (if ((⟨#[97, 116, 116, 101, 109, 112, 116, 32, 116, 111, 32, 99, 111, 110, 99, 97, 116, 101, 110, 97, 116, 101, 32, 97, 32]⟩ : ByteArray) ++ t153).size + 6 ≤ 9223372036854775807 then (some (((⟨#[97, 116, 116, 101, 109, 112, 116, 32, 116, 111, 32, 99, 111, 110, 99, 97, 116, 101, 110, 97, 116, 101, 32, 97, 32]⟩ : ByteArray) ++ t153) ++ (⟨#[32, 118, 97, 108, 117, 101]⟩ : ByteArray))) else (none)) else (none))) else ((selkieref01_Type.f a0_0 a0_1 a0_2).bind fun t154 => (if 25 + t154.size ≤ 9223372036854775807 then (if ((⟨#[97, 116, 116, 101, 109, 112, 116, 32, 116, 111, 32, 99, 111, 110, 99, 97, 116, 101, 110, 97, 116, 101, 32, 97, 32]⟩ : ByteArray) ++ t154).size + 6 ≤ 9223372036854775807 then (some (((⟨#[97, 116, 116, 101, 109, 112, 116, 32, 116, 111, 32, 99, 111, 110, 99, 97, 116, 101, 110, 97, 116, 101, 32, 97, 32]⟩ : ByteArray) ++ t154) ++ (⟨#[32, 118, 97, 108, 117, 101]⟩ : ByteArray))) else (none)) else (none))))
set_option maxHeartbeats 8000000 in
set_option maxRecDepth 100000 in
theorem selkieref10_Concat.calls (a0_0 : Int) (a0_1 : Int) (a0_2 : ByteArray) (a1_0 : Int) (a1_1 : Int) (a1_2 : ByteArray) (r : ByteArray) (w : World) (hT : Go.Proofs.YtpgpmldaggpciaaDoor.TabW.Tab w) (h : selkieref10_Concat.f a0_0 a0_1 a0_2 a1_0 a1_1 a1_2 = some r) :
    Calls Tryd.prog 27 #[.agg #[.int .i64 a0_0, .int .i64 a0_1, .string a0_2], .agg #[.int .i64 a1_0, .int .i64 a1_1, .string a1_2]] w fun e w' => e = .returned (.string r) ∧ Below w.heap.size w w' := by
  have hu32 := Tryd.underlying32
  have HB := Aside0.mk (Below.refl w.heap.size w)
  have HTT := Aside0.mk hT
  clear hT
  have H : ((selkieref03_String.f a0_0 a0_1 a0_2).bind fun bt151 => (if bt151.2 = true then ((selkieref01_Type.f a1_0 a1_1 a1_2).bind fun t153 => (if 25 + t153.size ≤ 9223372036854775807 then (if ((⟨#[97, 116, 116, 101, 109, 112, 116, 32, 116, 111, 32, 99, 111, 110, 99, 97, 116, 101, 110, 97, 116, 101, 32, 97, 32]⟩ : ByteArray) ++ t153).size + 6 ≤ 9223372036854775807 then (some (((⟨#[97, 116, 116, 101, 109, 112, 116, 32, 116, 111, 32, 99, 111, 110, 99, 97, 116, 101, 110, 97, 116, 101, 32, 97, 32]⟩ : ByteArray) ++ t153) ++ (⟨#[32, 118, 97, 108, 117, 101]⟩ : ByteArray))) else (none)) else (none))) else ((selkieref01_Type.f a0_0 a0_1 a0_2).bind fun t154 => (if 25 + t154.size ≤ 9223372036854775807 then (if ((⟨#[97, 116, 116, 101, 109, 112, 116, 32, 116, 111, 32, 99, 111, 110, 99, 97, 116, 101, 110, 97, 116, 101, 32, 97, 32]⟩ : ByteArray) ++ t154).size + 6 ≤ 9223372036854775807 then (some (((⟨#[97, 116, 116, 101, 109, 112, 116, 32, 116, 111, 32, 99, 111, 110, 99, 97, 116, 101, 110, 97, 116, 101, 32, 97, 32]⟩ : ByteArray) ++ t154) ++ (⟨#[32, 118, 97, 108, 117, 101]⟩ : ByteArray))) else (none)) else (none))))) = some r := h
  clear h
  replace H := Option.bind_eq_some_iff.mp H
  obtain ⟨⟨t151, t152⟩, A30, H⟩ := H
  replace H : (if t152 = true then ((selkieref01_Type.f a1_0 a1_1 a1_2).bind fun t153 => (if 25 + t153.size ≤ 9223372036854775807 then (if ((⟨#[97, 116, 116, 101, 109, 112, 116, 32, 116, 111, 32, 99, 111, 110, 99, 97, 116, 101, 110, 97, 116, 101, 32, 97, 32]⟩ : ByteArray) ++ t153).size + 6 ≤ 9223372036854775807 then (some (((⟨#[97, 116, 116, 101, 109, 112, 116, 32, 116, 111, 32, 99, 111, 110, 99, 97, 116, 101, 110, 97, 116, 101, 32, 97, 32]⟩ : ByteArray) ++ t153) ++ (⟨#[32, 118, 97, 108, 117, 101]⟩ : ByteArray))) else (none)) else (none))) else ((selkieref01_Type.f a0_0 a0_1 a0_2).bind fun t154 => (if 25 + t154.size ≤ 9223372036854775807 then (if ((⟨#[97, 116, 116, 101, 109, 112, 116, 32, 116, 111, 32, 99, 111, 110, 99, 97, 116, 101, 110, 97, 116, 101, 32, 97, 32]⟩ : ByteArray) ++ t154).size + 6 ≤ 9223372036854775807 then (some (((⟨#[97, 116, 116, 101, 109, 112, 116, 32, 116, 111, 32, 99, 111, 110, 99, 97, 116, 101, 110, 97, 116, 101, 32, 97, 32]⟩ : ByteArray) ++ t154) ++ (⟨#[32, 118, 97, 108, 117, 101]⟩ : ByteArray))) else (none)) else (none)))) = some r := H
  have A3 := Aside0.mk A30
  clear A30
  by_cases c4 : t152 = true
  · subst c4
    have H1 : ((selkieref01_Type.f a1_0 a1_1 a1_2).bind fun t153 => (if 25 + t153.size ≤ 9223372036854775807 then (if ((⟨#[97, 116, 116, 101, 109, 112, 116, 32, 116, 111, 32, 99, 111, 110, 99, 97, 116, 101, 110, 97, 116, 101, 32, 97, 32]⟩ : ByteArray) ++ t153).size + 6 ≤ 9223372036854775807 then (some (((⟨#[97, 116, 116, 101, 109, 112, 116, 32, 116, 111, 32, 99, 111, 110, 99, 97, 116, 101, 110, 97, 116, 101, 32, 97, 32]⟩ : ByteArray) ++ t153) ++ (⟨#[32, 118, 97, 108, 117, 101]⟩ : ByteArray))) else (none)) else (none))) = some r := by rw [if_pos rfl] at H; exact H
    clear H
    have H := H1
    clear H1
    replace H := Option.bind_eq_some_iff.mp H
    obtain ⟨t153, A50, H⟩ := H
    replace H : (if 25 + t153.size ≤ 9223372036854775807 then (if ((⟨#[97, 116, 116, 101, 109, 112, 116, 32, 116, 111, 32, 99, 111, 110, 99, 97, 116, 101, 110, 97, 116, 101, 32, 97, 32]⟩ : ByteArray) ++ t153).size + 6 ≤ 9223372036854775807 then (some (((⟨#[97, 116, 116, 101, 109, 112, 116, 32, 116, 111, 32, 99, 111, 110, 99, 97, 116, 101, 110, 97, 116, 101, 32, 97, 32]⟩ : ByteArray) ++ t153) ++ (⟨#[32, 118, 97, 108, 117, 101]⟩ : ByteArray))) else (none)) else (none)) = some r := H
    have A5 := Aside0.mk A50
    clear A50
    by_cases c6 : 25 + t153.size ≤ 9223372036854775807
    · rw [if_pos c6] at H
      have c6b0 := eq_true c6
      have c6b1 : decide (25 + t153.size ≤ 9223372036854775807) = true := decide_eq_true c6
      try have c6b2 : (9223372036854775807 < 25 + t153.size) = False := eq_false (Nat.not_lt.2 c6)
      by_cases c7 : ((⟨#[97, 116, 116, 101, 109, 112, 116, 32, 116, 111, 32, 99, 111, 110, 99, 97, 116, 101, 110, 97, 116, 101, 32, 97, 32]⟩ : ByteArray) ++ t153).size + 6 ≤ 9223372036854775807
      · rw [if_pos c7] at H
        have c7b0 := eq_true c7
        have c7b1 : decide (((⟨#[97, 116, 116, 101, 109, 112, 116, 32, 116, 111, 32, 99, 111, 110, 99, 97, 116, 101, 110, 97, 116, 101, 32, 97, 32]⟩ : ByteArray) ++ t153).size + 6 ≤ 9223372036854775807) = true := decide_eq_true c7
        try have c7b2 : (9223372036854775807 < ((⟨#[97, 116, 116, 101, 109, 112, 116, 32, 116, 111, 32, 99, 111, 110, 99, 97, 116, 101, 110, 97, 116, 101, 32, 97, 32]⟩ : ByteArray) ++ t153).size + 6) = False := eq_false (Nat.not_lt.2 c7)
        (try (have c7e := c7b2; simp only [ByteArray.size_append, TabW.sizeL, List.length_cons, List.length_nil, Nat.zero_add, Nat.reduceAdd] at c7e))
        obtain rfl := Option.some.inj H
        go_enter Tryd.func27, Tryd.ntmps27
        go_wp2_with (first | ((with_reducible refine gate_dst (N := 2) rfl ?_); refine box_event ?hg (N := 2) ?hd (cs := #[.int .i64 a0_0, .int .i64 a0_1, .string a0_2]) (t := 32) ?hr ?_; (case hd => rfl); (case hg => rfl); (case hr => first | (go_simp; done) | (go_simp; rfl)); intro gb149 hg w8 hbox hb; have n0_ := Aside0.mk (below_step (by repeat (first | (with_reducible first | exact HB.out | apply below_alloc | apply pw_below_drewN | apply below_drew1) | exact HB.out)) hb); have n1_ := Aside0.mk (hbox); have n2_ := Aside0.mk ((by rw [hg]; exact (below_size (by repeat (first | (with_reducible first | exact HB.out | apply below_alloc | apply pw_below_drewN | apply below_drew1) | exact HB.out))) : w.heap.size ≤ gb149)); have n3_ := Aside0.mk ((by rw [hg]; exact (below_size (by repeat (first | (with_reducible first | exact HB.out | apply below_alloc | apply pw_below_drewN | apply below_drew1) | exact HB.out))) : w.heap.size ≤ gb149)); clear HB; have HB := n0_; have BK149 := n1_; have GW149 := n2_; have GE149 := n3_; clear n0_ n1_ n2_ n3_; clear hb hbox hg) | ((with_reducible refine gate_dst (N := 3) rfl ?_); refine box_event ?hg (N := 3) ?hd (cs := #[.int .i64 a1_0, .int .i64 a1_1, .string a1_2]) (t := 32) ?hr ?_; (case hd => rfl); (case hg => rfl); (case hr => first | (go_simp; done) | (go_simp; rfl)); intro gb150 hg w9 hbox hb; have n0_ := Aside0.mk (blk_below (g := gb149) (o := .cells #[.int .i64 a0_0, .int .i64 a0_1, .string a0_2] 32 (0, 0)) (by (with_reducible repeat (first | refine blk_drewN ?_ _ | refine blk_drew ?_ | refine blk_alloc ?_ _)); exact BK149.out) hb); have n1_ := Aside0.mk (below_step (by repeat (first | (with_reducible first | exact HB.out | apply below_alloc | apply pw_below_drewN | apply below_drew1 | refine below_set ?_ GE149.out) | exact HB.out)) hb); have n2_ := Aside0.mk (hbox); have n3_ := Aside0.mk ((by rw [hg]; exact (below_size (by repeat (first | (with_reducible first | exact HB.out | apply below_alloc | apply pw_below_drewN | apply below_drew1 | refine below_set ?_ GE149.out) | exact HB.out))) : w.heap.size ≤ gb150)); have n4_ := Aside0.mk ((by rw [hg]; exact (below_size (by repeat (first | (with_reducible first | exact HB.out | apply below_alloc | apply pw_below_drewN | apply below_drew1 | refine below_set ?_ GE149.out) | exact HB.out))) : w.heap.size ≤ gb150)); have n5_ := Aside0.mk ((by rw [hg]; exact Nat.ne_of_lt (blk_lt (g := gb149) (o := .cells #[.int .i64 a0_0, .int .i64 a0_1, .string a0_2] 32 (0, 0)) (by (with_reducible repeat (first | refine blk_drewN ?_ _ | refine blk_drew ?_ | refine blk_alloc ?_ _)); exact BK149.out)) : gb149 ≠ gb150)); have n6_ := Aside0.mk ((by rw [hg]; exact Nat.ne_of_gt (blk_lt (g := gb149) (o := .cells #[.int .i64 a0_0, .int .i64 a0_1, .string a0_2] 32 (0, 0)) (by (with_reducible repeat (first | refine blk_drewN ?_ _ | refine blk_drew ?_ | refine blk_alloc ?_ _)); exact BK149.out)) : gb150 ≠ gb149)); clear BK149; clear HB; have BK149 := n0_; have HB := n1_; have BK150 := n2_; have GW150 := n3_; have GE150 := n4_; have NB149_150 := n5_; have NB150_149 := n6_; clear n0_ n1_ n2_ n3_ n4_ n5_ n6_; clear hb hbox hg; have hnb10 := NB149_150.out; have hnc10 := NB150_149.out; have hcz11_0 : w9.cell? ⟨gb149, 0, none⟩ = some (.int .i64 a0_0) := (blk_cell BK149.out 0).trans rfl; have hcz11_1 : w9.cell? ⟨gb149, 1, none⟩ = some (.int .i64 a0_1) := (blk_cell BK149.out 1).trans rfl; have hcz11_2 : w9.cell? ⟨gb149, 2, none⟩ = some (.string a0_2) := (blk_cell BK149.out 2).trans rfl; have hfz11_0 := blk_frozen BK149.out 0; have hfz11_1 := blk_frozen BK149.out 1; have hfz11_2 := blk_frozen BK149.out 2) | ((with_reducible refine gate_callee (f := 66) rfl ?_); refine goesL_ (some 9) rfl rfl Tryd.func66 (by kernel_rfl) rfl #[.agg #[.int .i64 a0_0, .int .i64 a0_1, .string a0_2]] rfl (by (try simp only [List.map_toArray, List.map_cons, List.map_nil]); first | done | rfl | (simp only [List.length_drop, List.length_take]; rfl)) ?_; (with_reducible refine (selkieref03_String.calls a0_0 a0_1 a0_2 t151 true _ (HTT.out.on (by repeat (first | (with_reducible first | exact HB.out | apply below_alloc | apply pw_below_drewN | apply below_drew1 | refine below_set ?_ GE149.out | refine below_set ?_ GE150.out) | exact HB.out))) A3.out).mono ?_); rintro e w12 ⟨rfl, hb⟩; refine ⟨_, rfl, ?_⟩; have n0_ := Aside0.mk (blk_below (g := gb149) (o := .cells #[.int .i64 a0_0, .int .i64 a0_1, .string a0_2] 32 (0, 0)) (by (with_reducible repeat (first | refine blk_drewN ?_ _ | refine blk_drew ?_ | refine blk_alloc ?_ _)); exact BK149.out) hb); have n1_ := Aside0.mk (blk_below (g := gb150) (o := .cells #[.int .i64 a1_0, .int .i64 a1_1, .string a1_2] 32 (0, 0)) (by (with_reducible repeat (first | refine blk_drewN ?_ _ | refine blk_drew ?_ | refine blk_alloc ?_ _)); exact BK150.out) hb); have n2_ := Aside0.mk (below_step (by repeat (first | (with_reducible first | exact HB.out | apply below_alloc | apply pw_below_drewN | apply below_drew1 | refine below_set ?_ GE149.out | refine below_set ?_ GE150.out) | exact HB.out)) hb); clear BK149; clear BK150; clear HB; have BK149 := n0_; have BK150 := n1_; have HB := n2_; clear n0_ n1_ n2_; (try clear hb); (try clear hb2); (try clear hk); (try clear hi); have hcz13_0 : w12.cell? ⟨gb150, 0, none⟩ = some (.int .i64 a1_0) := (blk_cell BK150.out 0).trans rfl; have hcz13_1 : w12.cell? ⟨gb150, 1, none⟩ = some (.int .i64 a1_1) := (blk_cell BK150.out 1).trans rfl; have hcz13_2 : w12.cell? ⟨gb150, 2, none⟩ = some (.string a1_2) := (blk_cell BK150.out 2).trans rfl; have hfz13_0 := blk_frozen BK150.out 0; have hfz13_1 := blk_frozen BK150.out 1; have hfz13_2 := blk_frozen BK150.out 2; have hcz14_0 : w12.cell? ⟨gb149, 0, none⟩ = some (.int .i64 a0_0) := (blk_cell BK149.out 0).trans rfl; have hcz14_1 : w12.cell? ⟨gb149, 1, none⟩ = some (.int .i64 a0_1) := (blk_cell BK149.out 1).trans rfl; have hcz14_2 : w12.cell? ⟨gb149, 2, none⟩ = some (.string a0_2) := (blk_cell BK149.out 2).trans rfl; have hfz14_0 := blk_frozen BK149.out 0; have hfz14_1 := blk_frozen BK149.out 1; have hfz14_2 := blk_frozen BK149.out 2) | ((with_reducible refine gate_callee (f := 64) rfl ?_); refine goesL_ (some 15) rfl rfl Tryd.func64 (by kernel_rfl) rfl #[.agg #[.int .i64 a1_0, .int .i64 a1_1, .string a1_2]] rfl (by (try simp only [List.map_toArray, List.map_cons, List.map_nil]); first | done | rfl | (simp only [List.length_drop, List.length_take]; rfl)) ?_; (with_reducible refine (selkieref01_Type.calls a1_0 a1_1 a1_2 t153 _ A5.out).mono ?_); rintro e w15 ⟨rfl, hb⟩; refine ⟨_, rfl, ?_⟩; have n0_ := Aside0.mk (blk_below (g := gb149) (o := .cells #[.int .i64 a1_0, .int .i64 a1_1, .string a1_2] 32 (0, 0)) (by (with_reducible repeat (first | refine blk_drewN ?_ _ | refine blk_drew ?_ | refine blk_alloc ?_ _)); refine blk_put (cs := #[.int .i64 a1_0, .int .i64 a1_1, .string a0_2]) ?_ 2 _ rfl; (with_reducible repeat (first | refine blk_drewN ?_ _ | refine blk_drew ?_ | refine blk_alloc ?_ _)); refine blk_put (cs := #[.int .i64 a1_0, .int .i64 a0_1, .string a0_2]) ?_ 1 _ rfl; (with_reducible repeat (first | refine blk_drewN ?_ _ | refine blk_drew ?_ | refine blk_alloc ?_ _)); refine blk_put (cs := #[.int .i64 a0_0, .int .i64 a0_1, .string a0_2]) ?_ 0 _ rfl; (with_reducible repeat (first | refine blk_drewN ?_ _ | refine blk_drew ?_ | refine blk_alloc ?_ _)); exact BK149.out) hb); have n1_ := Aside0.mk (blk_below (g := gb150) (o := .cells #[.int .i64 a1_0, .int .i64 a1_1, .string a1_2] 32 (0, 0)) (by (with_reducible repeat (first | refine blk_drewN ?_ _ | refine blk_drew ?_ | refine blk_alloc ?_ _)); refine blk_far ?_ NB150_149.out _; (with_reducible repeat (first | refine blk_drewN ?_ _ | refine blk_drew ?_ | refine blk_alloc ?_ _)); refine blk_far ?_ NB150_149.out _; (with_reducible repeat (first | refine blk_drewN ?_ _ | refine blk_drew ?_ | refine blk_alloc ?_ _)); refine blk_far ?_ NB150_149.out _; (with_reducible repeat (first | refine blk_drewN ?_ _ | refine blk_drew ?_ | refine blk_alloc ?_ _)); exact BK150.out) hb); have n2_ := Aside0.mk (below_step (by repeat (first | (with_reducible first | exact HB.out | apply below_alloc | apply pw_below_drewN | apply below_drew1 | refine below_set ?_ GE149.out | refine below_set ?_ GE150.out) | exact HB.out)) hb); clear BK149; clear BK150; clear HB; have BK149 := n0_; have BK150 := n1_; have HB := n2_; clear n0_ n1_ n2_; (try clear hb); (try clear hb2); (try clear hk); (try clear hi)))
        go_ret
        exact ⟨by first | rfl | (simp [errW_none, errW_some] <;> rfl) | (simp [*, errW_none, errW_some] <;> rfl), by repeat (first | (with_reducible first | exact HB.out | apply below_alloc | apply pw_below_drewN | apply below_drew1 | refine below_set ?_ GE149.out | refine below_set ?_ GE150.out) | exact HB.out)⟩
      · rw [if_neg c7] at H
        exact absurd H (by simp)
    · rw [if_neg c6] at H
      exact absurd H (by simp)
  · replace c4 := Bool.eq_false_iff.mpr c4
    subst c4
    have H1 : ((selkieref01_Type.f a0_0 a0_1 a0_2).bind fun t154 => (if 25 + t154.size ≤ 9223372036854775807 then (if ((⟨#[97, 116, 116, 101, 109, 112, 116, 32, 116, 111, 32, 99, 111, 110, 99, 97, 116, 101, 110, 97, 116, 101, 32, 97, 32]⟩ : ByteArray) ++ t154).size + 6 ≤ 9223372036854775807 then (some (((⟨#[97, 116, 116, 101, 109, 112, 116, 32, 116, 111, 32, 99, 111, 110, 99, 97, 116, 101, 110, 97, 116, 101, 32, 97, 32]⟩ : ByteArray) ++ t154) ++ (⟨#[32, 118, 97, 108, 117, 101]⟩ : ByteArray))) else (none)) else (none))) = some r := by rw [if_neg (show ¬ (false = true) by decide)] at H; exact H
    clear H
    have H := H1
    clear H1
    replace H := Option.bind_eq_some_iff.mp H
    obtain ⟨t154, A160, H⟩ := H
    replace H : (if 25 + t154.size ≤ 9223372036854775807 then (if ((⟨#[97, 116, 116, 101, 109, 112, 116, 32, 116, 111, 32, 99, 111, 110, 99, 97, 116, 101, 110, 97, 116, 101, 32, 97, 32]⟩ : ByteArray) ++ t154).size + 6 ≤ 9223372036854775807 then (some (((⟨#[97, 116, 116, 101, 109, 112, 116, 32, 116, 111, 32, 99, 111, 110, 99, 97, 116, 101, 110, 97, 116, 101, 32, 97, 32]⟩ : ByteArray) ++ t154) ++ (⟨#[32, 118, 97, 108, 117, 101]⟩ : ByteArray))) else (none)) else (none)) = some r := H
    have A16 := Aside0.mk A160
    clear A160
    by_cases c17 : 25 + t154.size ≤ 9223372036854775807
    · rw [if_pos c17] at H
      have c17b0 := eq_true c17
      have c17b1 : decide (25 + t154.size ≤ 9223372036854775807) = true := decide_eq_true c17
      try have c17b2 : (9223372036854775807 < 25 + t154.size) = False := eq_false (Nat.not_lt.2 c17)
      by_cases c18 : ((⟨#[97, 116, 116, 101, 109, 112, 116, 32, 116, 111, 32, 99, 111, 110, 99, 97, 116, 101, 110, 97, 116, 101, 32, 97, 32]⟩ : ByteArray) ++ t154).size + 6 ≤ 9223372036854775807
      · rw [if_pos c18] at H
        have c18b0 := eq_true c18
        have c18b1 : decide (((⟨#[97, 116, 116, 101, 109, 112, 116, 32, 116, 111, 32, 99, 111, 110, 99, 97, 116, 101, 110, 97, 116, 101, 32, 97, 32]⟩ : ByteArray) ++ t154).size + 6 ≤ 9223372036854775807) = true := decide_eq_true c18
        try have c18b2 : (9223372036854775807 < ((⟨#[97, 116, 116, 101, 109, 112, 116, 32, 116, 111, 32, 99, 111, 110, 99, 97, 116, 101, 110, 97, 116, 101, 32, 97, 32]⟩ : ByteArray) ++ t154).size + 6) = False := eq_false (Nat.not_lt.2 c18)
        (try (have c18e := c18b2; simp only [ByteArray.size_append, TabW.sizeL, List.length_cons, List.length_nil, Nat.zero_add, Nat.reduceAdd] at c18e))
        obtain rfl := Option.some.inj H
        go_enter Tryd.func27, Tryd.ntmps27
        go_wp2_with (first | ((with_reducible refine gate_dst (N := 2) rfl ?_); refine box_event ?hg (N := 2) ?hd (cs := #[.int .i64 a0_0, .int .i64 a0_1, .string a0_2]) (t := 32) ?hr ?_; (case hd => rfl); (case hg => rfl); (case hr => first | (go_simp; done) | (go_simp; rfl)); intro gb149 hg w19 hbox hb; have n0_ := Aside0.mk (below_step (by repeat (first | (with_reducible first | exact HB.out | apply below_alloc | apply pw_below_drewN | apply below_drew1) | exact HB.out)) hb); have n1_ := Aside0.mk (hbox); have n2_ := Aside0.mk ((by rw [hg]; exact (below_size (by repeat (first | (with_reducible first | exact HB.out | apply below_alloc | apply pw_below_drewN | apply below_drew1) | exact HB.out))) : w.heap.size ≤ gb149)); have n3_ := Aside0.mk ((by rw [hg]; exact (below_size (by repeat (first | (with_reducible first | exact HB.out | apply below_alloc | apply pw_below_drewN | apply below_drew1) | exact HB.out))) : w.heap.size ≤ gb149)); clear HB; have HB := n0_; have BK149 := n1_; have GW149 := n2_; have GE149 := n3_; clear n0_ n1_ n2_ n3_; clear hb hbox hg) | ((with_reducible refine gate_dst (N := 3) rfl ?_); refine box_event ?hg (N := 3) ?hd (cs := #[.int .i64 a1_0, .int .i64 a1_1, .string a1_2]) (t := 32) ?hr ?_; (case hd => rfl); (case hg => rfl); (case hr => first | (go_simp; done) | (go_simp; rfl)); intro gb150 hg w20 hbox hb; have n0_ := Aside0.mk (blk_below (g := gb149) (o := .cells #[.int .i64 a0_0, .int .i64 a0_1, .string a0_2] 32 (0, 0)) (by (with_reducible repeat (first | refine blk_drewN ?_ _ | refine blk_drew ?_ | refine blk_alloc ?_ _)); exact BK149.out) hb); have n1_ := Aside0.mk (below_step (by repeat (first | (with_reducible first | exact HB.out | apply below_alloc | apply pw_below_drewN | apply below_drew1 | refine below_set ?_ GE149.out) | exact HB.out)) hb); have n2_ := Aside0.mk (hbox); have n3_ := Aside0.mk ((by rw [hg]; exact (below_size (by repeat (first | (with_reducible first | exact HB.out | apply below_alloc | apply pw_below_drewN | apply below_drew1 | refine below_set ?_ GE149.out) | exact HB.out))) : w.heap.size ≤ gb150)); have n4_ := Aside0.mk ((by rw [hg]; exact (below_size (by repeat (first | (with_reducible first | exact HB.out | apply below_alloc | apply pw_below_drewN | apply below_drew1 | refine below_set ?_ GE149.out) | exact HB.out))) : w.heap.size ≤ gb150)); have n5_ := Aside0.mk ((by rw [hg]; exact Nat.ne_of_lt (blk_lt (g := gb149) (o := .cells #[.int .i64 a0_0, .int .i64 a0_1, .string a0_2] 32 (0, 0)) (by (with_reducible repeat (first | refine blk_drewN ?_ _ | refine blk_drew ?_ | refine blk_alloc ?_ _)); exact BK149.out)) : gb149 ≠ gb150)); have n6_ := Aside0.mk ((by rw [hg]; exact Nat.ne_of_gt (blk_lt (g := gb149) (o := .cells #[.int .i64 a0_0, .int .i64 a0_1, .string a0_2] 32 (0, 0)) (by (with_reducible repeat (first | refine blk_drewN ?_ _ | refine blk_drew ?_ | refine blk_alloc ?_ _)); exact BK149.out)) : gb150 ≠ gb149)); clear BK149; clear HB; have BK149 := n0_; have HB := n1_; have BK150 := n2_; have GW150 := n3_; have GE150 := n4_; have NB149_150 := n5_; have NB150_149 := n6_; clear n0_ n1_ n2_ n3_ n4_ n5_ n6_; clear hb hbox hg; have hnb21 := NB149_150.out; have hnc21 := NB150_149.out; have hcz22_0 : w20.cell? ⟨gb149, 0, none⟩ = some (.int .i64 a0_0) := (blk_cell BK149.out 0).trans rfl; have hcz22_1 : w20.cell? ⟨gb149, 1, none⟩ = some (.int .i64 a0_1) := (blk_cell BK149.out 1).trans rfl; have hcz22_2 : w20.cell? ⟨gb149, 2, none⟩ = some (.string a0_2) := (blk_cell BK149.out 2).trans rfl; have hfz22_0 := blk_frozen BK149.out 0; have hfz22_1 := blk_frozen BK149.out 1; have hfz22_2 := blk_frozen BK149.out 2) | ((with_reducible refine gate_callee (f := 66) rfl ?_); refine goesL_ (some 9) rfl rfl Tryd.func66 (by kernel_rfl) rfl #[.agg #[.int .i64 a0_0, .int .i64 a0_1, .string a0_2]] rfl (by (try simp only [List.map_toArray, List.map_cons, List.map_nil]); first | done | rfl | (simp only [List.length_drop, List.length_take]; rfl)) ?_; (with_reducible refine (selkieref03_String.calls a0_0 a0_1 a0_2 t151 false _ (HTT.out.on (by repeat (first | (with_reducible first | exact HB.out | apply below_alloc | apply pw_below_drewN | apply below_drew1 | refine below_set ?_ GE149.out | refine below_set ?_ GE150.out) | exact HB.out))) A3.out).mono ?_); rintro e w23 ⟨rfl, hb⟩; refine ⟨_, rfl, ?_⟩; have n0_ := Aside0.mk (blk_below (g := gb149) (o := .cells #[.int .i64 a0_0, .int .i64 a0_1, .string a0_2] 32 (0, 0)) (by (with_reducible repeat (first | refine blk_drewN ?_ _ | refine blk_drew ?_ | refine blk_alloc ?_ _)); exact BK149.out) hb); have n1_ := Aside0.mk (blk_below (g := gb150) (o := .cells #[.int .i64 a1_0, .int .i64 a1_1, .string a1_2] 32 (0, 0)) (by (with_reducible repeat (first | refine blk_drewN ?_ _ | refine blk_drew ?_ | refine blk_alloc ?_ _)); exact BK150.out) hb); have n2_ := Aside0.mk (below_step (by repeat (first | (with_reducible first | exact HB.out | apply below_alloc | apply pw_below_drewN | apply below_drew1 | refine below_set ?_ GE149.out | refine below_set ?_ GE150.out) | exact HB.out)) hb); clear BK149; clear BK150; clear HB; have BK149 := n0_; have BK150 := n1_; have HB := n2_; clear n0_ n1_ n2_; (try clear hb); (try clear hb2); (try clear hk); (try clear hi); have hcz24_0 : w23.cell? ⟨gb149, 0, none⟩ = some (.int .i64 a0_0) := (blk_cell BK149.out 0).trans rfl; have hcz24_1 : w23.cell? ⟨gb149, 1, none⟩ = some (.int .i64 a0_1) := (blk_cell BK149.out 1).trans rfl; have hcz24_2 : w23.cell? ⟨gb149, 2, none⟩ = some (.string a0_2) := (blk_cell BK149.out 2).trans rfl; have hfz24_0 := blk_frozen BK149.out 0; have hfz24_1 := blk_frozen BK149.out 1; have hfz24_2 := blk_frozen BK149.out 2) | ((with_reducible refine gate_callee (f := 64) rfl ?_); refine goesL_ (some 15) rfl rfl Tryd.func64 (by kernel_rfl) rfl #[.agg #[.int .i64 a0_0, .int .i64 a0_1, .string a0_2]] rfl (by (try simp only [List.map_toArray, List.map_cons, List.map_nil]); first | done | rfl | (simp only [List.length_drop, List.length_take]; rfl)) ?_; (with_reducible refine (selkieref01_Type.calls a0_0 a0_1 a0_2 t154 _ A16.out).mono ?_); rintro e w25 ⟨rfl, hb⟩; refine ⟨_, rfl, ?_⟩; have n0_ := Aside0.mk (blk_below (g := gb149) (o := .cells #[.int .i64 a0_0, .int .i64 a0_1, .string a0_2] 32 (0, 0)) (by (with_reducible repeat (first | refine blk_drewN ?_ _ | refine blk_drew ?_ | refine blk_alloc ?_ _)); exact BK149.out) hb); have n1_ := Aside0.mk (blk_below (g := gb150) (o := .cells #[.int .i64 a1_0, .int .i64 a1_1, .string a1_2] 32 (0, 0)) (by (with_reducible repeat (first | refine blk_drewN ?_ _ | refine blk_drew ?_ | refine blk_alloc ?_ _)); exact BK150.out) hb); have n2_ := Aside0.mk (below_step (by repeat (first | (with_reducible first | exact HB.out | apply below_alloc | apply pw_below_drewN | apply below_drew1 | refine below_set ?_ GE149.out | refine below_set ?_ GE150.out) | exact HB.out)) hb); clear BK149; clear BK150; clear HB; have BK149 := n0_; have BK150 := n1_; have HB := n2_; clear n0_ n1_ n2_; (try clear hb); (try clear hb2); (try clear hk); (try clear hi)))
        go_ret
        exact ⟨by first | rfl | (simp [errW_none, errW_some] <;> rfl) | (simp [*, errW_none, errW_some] <;> rfl), by repeat (first | (with_reducible first | exact HB.out | apply below_alloc | apply pw_below_drewN | apply below_drew1 | refine below_set ?_ GE149.out | refine below_set ?_ GE150.out) | exact HB.out)⟩
      · rw [if_neg c18] at H
        exact absurd H (by simp)
    · rw [if_neg c17] at H
      exact absurd H (by simp)

/-! ### selkieref10_Compare: function 29 -/
def selkieref10_Compare.f (a0_0 : Int) (a0_1 : Int) (a0_2 : ByteArray) (a1_0 : Int) (a1_1 : Int) (a1_2 : ByteArray) : Option (ByteArray) := (selkieref01_Type.f a0_0 a0_1 a0_2).bind fun t157 => ((selkieref01_Type.f a1_0 a1_1 a1_2).bind fun t158 => (if t157.toList = t158.toList then (if 23 + t157.size ≤ 9223372036854775807 then (if ((⟨#[97, 116, 116, 101, 109, 112, 116, 32, 116, 111, 32, 99, 111, 109, 112, 97, 114, 101, 32, 116, 119, 111, 32]⟩ : ByteArray) ++ t157).size + 7 ≤ 9223372036854775807 then (some (((⟨#[97, 116, 116, 101, 109, 112, 116, 32, 116, 111, 32, 99, 111, 109, 112, 97, 114, 101, 32, 116, 119, 111, 32]⟩ : ByteArray) ++ t157) ++ (⟨#[32, 118, 97, 108, 117, 101, 115]⟩ : ByteArray))) else (none)) else (none)) else (if 19 + t157.size ≤ 9223372036854775807 then (if ((⟨#[97, 116, 116, 101, 109, 112, 116, 32, 116, 111, 32, 99, 111, 109, 112, 97, 114, 101, 32]⟩ : ByteArray) ++ t157).size + 6 ≤ 9223372036854775807 then (if (((⟨#[97, 116, 116, 101, 109, 112, 116, 32, 116, 111, 32, 99, 111, 109, 112, 97, 114, 101, 32]⟩ : ByteArray) ++ t157) ++ (⟨#[32, 119, 105, 116, 104, 32]⟩ : ByteArray)).size + t158.size ≤ 9223372036854775807 then (some ((((⟨#[97, 116, 116, 101, 109, 112, 116, 32, 116, 111, 32, 99, 111, 109, 112, 97, 114, 101, 32]⟩ : ByteArray) ++ t157) ++ (⟨#[32, 119, 105, 116, 104, 32]⟩ : ByteArray)) ++ t158)) else (none)) else (none)) else (none))))
set_option maxHeartbeats 8000000 in
set_option maxRecDepth 100000 in
theorem selkieref10_Compare.calls (a0_0 : Int) (a0_1 : Int) (a0_2 : ByteArray) (a1_0 : Int) (a1_1 : Int) (a1_2 : ByteArray) (r : ByteArray) (w : World) (h : selkieref10_Compare.f a0_0 a0_1 a0_2 a1_0 a1_1 a1_2 = some r) :
    Calls Tryd.prog 29 #[.agg #[.int .i64 a0_0, .int .i64 a0_1, .string a0_2], .agg #[.int .i64 a1_0, .int .i64 a1_1, .string a1_2]] w fun e w' => e = .returned (.string r) ∧ Below w.heap.size w w' := by
  have hu32 := Tryd.underlying32
  have HB := Aside0.mk (Below.refl w.heap.size w)
  have H : ((selkieref01_Type.f a0_0 a0_1 a0_2).bind fun t157 => ((selkieref01_Type.f a1_0 a1_1 a1_2).bind fun t158 => (if t157.toList = t158.toList then (if 23 + t157.size ≤ 9223372036854775807 then (if ((⟨#[97, 116, 116, 101, 109, 112, 116, 32, 116, 111, 32, 99, 111, 109, 112, 97, 114, 101, 32, 116, 119, 111, 32]⟩ : ByteArray) ++ t157).size + 7 ≤ 9223372036854775807 then (some (((⟨#[97, 116, 116, 101, 109, 112, 116, 32, 116, 111, 32, 99, 111, 109, 112, 97, 114, 101, 32, 116, 119, 111, 32]⟩ : ByteArray) ++ t157) ++ (⟨#[32, 118, 97, 108, 117, 101, 115]⟩ : ByteArray))) else (none)) else (none)) else (if 19 + t157.size ≤ 9223372036854775807 then (if ((⟨#[97, 116, 116, 101, 109, 112, 116, 32, 116, 111, 32, 99, 111, 109, 112, 97, 114, 101, 32]⟩ : ByteArray) ++ t157).size + 6 ≤ 9223372036854775807 then (if (((⟨#[97, 116, 116, 101, 109, 112, 116, 32, 116, 111, 32, 99, 111, 109, 112, 97, 114, 101, 32]⟩ : ByteArray) ++ t157) ++ (⟨#[32, 119, 105, 116, 104, 32]⟩ : ByteArray)).size + t158.size ≤ 9223372036854775807 then (some ((((⟨#[97, 116, 116, 101, 109, 112, 116, 32, 116, 111, 32, 99, 111, 109, 112, 97, 114, 101, 32]⟩ : ByteArray) ++ t157) ++ (⟨#[32, 119, 105, 116, 104, 32]⟩ : ByteArray)) ++ t158)) else (none)) else (none)) else (none))))) = some r := h
  clear h
  replace H := Option.bind_eq_some_iff.mp H
  obtain ⟨t157, A30, H⟩ := H
  replace H : ((selkieref01_Type.f a1_0 a1_1 a1_2).bind fun t158 => (if t157.toList = t158.toList then (if 23 + t157.size ≤ 9223372036854775807 then (if ((⟨#[97, 116, 116, 101, 109, 112, 116, 32, 116, 111, 32, 99, 111, 109, 112, 97, 114, 101, 32, 116, 119, 111, 32]⟩ : ByteArray) ++ t157).size + 7 ≤ 9223372036854775807 then (some (((⟨#[97, 116, 116, 101, 109, 112, 116, 32, 116, 111, 32, 99, 111, 109, 112, 97, 114, 101, 32, 116, 119, 111, 32]⟩ : ByteArray) ++ t157) ++ (⟨#[32, 118, 97, 108, 117, 101, 115]⟩ : ByteArray))) else (none)) else (none)) else (if 19 + t157.size ≤ 9223372036854775807 then (if ((⟨#[97, 116, 116, 101, 109, 112, 116, 32, 116, 111, 32, 99, 111, 109, 112, 97, 114, 101, 32]⟩ : ByteArray) ++ t157).size + 6 ≤ 9223372036854775807 then (if (((⟨#[97, 116, 116, 101, 109, 112, 116, 32, 116, 111, 32, 99, 111, 109, 112, 97, 114, 101, 32]⟩ : ByteArray) ++ t157) ++ (⟨#[32, 119, 105, 116, 104, 32]⟩ : ByteArray)).size + t158.size ≤ 9223372036854775807 then (some ((((⟨#[97, 116, 116, 101, 109, 112, 116, 32, 116, 111, 32, 99, 111, 109, 112, 97, 114, 101, 32]⟩ : ByteArray) ++ t157) ++ (⟨#[32, 119, 105, 116, 104, 32]⟩ : ByteArray)) ++ t158)) else (none)) else (none)) else (none)))) = some r := H
  have A3 := Aside0.mk A30
  clear A30
  replace H := Option.bind_eq_some_iff.mp H
  obtain ⟨t158, A40, H⟩ := H
  replace H : (if t157.toList = t158.toList then (if 23 + t157.size ≤ 9223372036854775807 then (if ((⟨#[97, 116, 116, 101, 109, 112, 116, 32, 116, 111, 32, 99, 111, 109, 112, 97, 114, 101, 32, 116, 119, 111, 32]⟩ : ByteArray) ++ t157).size + 7 ≤ 9223372036854775807 then (some (((⟨#[97, 116, 116, 101, 109, 112, 116, 32, 116, 111, 32, 99, 111, 109, 112, 97, 114, 101, 32, 116, 119, 111, 32]⟩ : ByteArray) ++ t157) ++ (⟨#[32, 118, 97, 108, 117, 101, 115]⟩ : ByteArray))) else (none)) else (none)) else (if 19 + t157.size ≤ 9223372036854775807 then (if ((⟨#[97, 116, 116, 101, 109, 112, 116, 32, 116, 111, 32, 99, 111, 109, 112, 97, 114, 101, 32]⟩ : ByteArray) ++ t157).size + 6 ≤ 9223372036854775807 then (if (((⟨#[97, 116, 116, 101, 109, 112, 116, 32, 116, 111, 32, 99, 111, 109, 112, 97, 114, 101, 32]⟩ : ByteArray) ++ t157) ++ (⟨#[32, 119, 105, 116, 104, 32]⟩ : ByteArray)).size + t158.size ≤ 9223372036854775807 then (some ((((⟨#[97, 116, 116, 101, 109, 112, 116, 32, 116, 111, 32, 99, 111, 109, 112, 97, 114, 101, 32]⟩ : ByteArray) ++ t157) ++ (⟨#[32, 119, 105, 116, 104, 32]⟩ : ByteArray)) ++ t158)) else (none)) else (none)) else (none))) = some r := H
  have A4 := Aside0.mk A40
  clear A40
  by_cases c5 : t157.toList = t158.toList
  · rw [if_pos c5] at H
    have c5b0 : (t157.toList == t158.toList) = true := beq_iff_eq.mpr c5
    have c5b1 : (t157.toList != t158.toList) = false := bne_eq_false_iff_eq.mpr c5
    clear c5
    by_cases c6 : 23 + t157.size ≤ 9223372036854775807
    · rw [if_pos c6] at H
      have c6b0 := eq_true c6
      have c6b1 : decide (23 + t157.size ≤ 9223372036854775807) = true := decide_eq_true c6
      try have c6b2 : (9223372036854775807 < 23 + t157.size) = False := eq_false (Nat.not_lt.2 c6)
      by_cases c7 : ((⟨#[97, 116, 116, 101, 109, 112, 116, 32, 116, 111, 32, 99, 111, 109, 112, 97, 114, 101, 32, 116, 119, 111, 32]⟩ : ByteArray) ++ t157).size + 7 ≤ 9223372036854775807
      · rw [if_pos c7] at H
        have c7b0 := eq_true c7
        have c7b1 : decide (((⟨#[97, 116, 116, 101, 109, 112, 116, 32, 116, 111, 32, 99, 111, 109, 112, 97, 114, 101, 32, 116, 119, 111, 32]⟩ : ByteArray) ++ t157).size + 7 ≤ 9223372036854775807) = true := decide_eq_true c7
        try have c7b2 : (9223372036854775807 < ((⟨#[97, 116, 116, 101, 109, 112, 116, 32, 116, 111, 32, 99, 111, 109, 112, 97, 114, 101, 32, 116, 119, 111, 32]⟩ : ByteArray) ++ t157).size + 7) = False := eq_false (Nat.not_lt.2 c7)
        (try (have c7e := c7b2; simp only [ByteArray.size_append, TabW.sizeL, List.length_cons, List.length_nil, Nat.zero_add, Nat.reduceAdd] at c7e))
        obtain rfl := Option.some.inj H
        go_enter Tryd.func29, Tryd.ntmps29
        try go_wp2_with (first | ((with_reducible refine gate_dst (N := 2) rfl ?_); refine box_event ?hg (N := 2) ?hd (cs := #[.int .i64 a0_0, .int .i64 a0_1, .string a0_2]) (t := 32) ?hr ?_; (case hd => rfl); (case hg => rfl); (case hr => first | (go_simp; done) | (go_simp; rfl)); intro gb155 hg w8 hbox hb; have n0_ := Aside0.mk (below_step (by repeat (first | (with_reducible first | exact HB.out | apply below_alloc | apply pw_below_drewN | apply below_drew1) | exact HB.out)) hb); have n1_ := Aside0.mk (hbox); have n2_ := Aside0.mk ((by rw [hg]; exact (below_size (by repeat (first | (with_reducible first | exact HB.out | apply below_alloc | apply pw_below_drewN | apply below_drew1) | exact HB.out))) : w.heap.size ≤ gb155)); have n3_ := Aside0.mk ((by rw [hg]; exact (below_size (by repeat (first | (with_reducible first | exact HB.out | apply below_alloc | apply pw_below_drewN | apply below_drew1) | exact HB.out))) : w.heap.size ≤ gb155)); clear HB; have HB := n0_; have BK155 := n1_; have GW155 := n2_; have GE155 := n3_; clear n0_ n1_ n2_ n3_; clear hb hbox hg) | ((with_reducible refine gate_dst (N := 3) rfl ?_); refine box_event ?hg (N := 3) ?hd (cs := #[.int .i64 a1_0, .int .i64 a1_1, .string a1_2]) (t := 32) ?hr ?_; (case hd => rfl); (case hg => rfl); (case hr => first | (go_simp; done) | (go_simp; rfl)); intro gb156 hg w9 hbox hb; have n0_ := Aside0.mk (blk_below (g := gb155) (o := .cells #[.int .i64 a0_0, .int .i64 a0_1, .string a0_2] 32 (0, 0)) (by (with_reducible repeat (first | refine blk_drewN ?_ _ | refine blk_drew ?_ | refine blk_alloc ?_ _)); exact BK155.out) hb); have n1_ := Aside0.mk (below_step (by repeat (first | (with_reducible first | exact HB.out | apply below_alloc | apply pw_below_drewN | apply below_drew1 | refine below_set ?_ GE155.out) | exact HB.out)) hb); have n2_ := Aside0.mk (hbox); have n3_ := Aside0.mk ((by rw [hg]; exact (below_size (by repeat (first | (with_reducible first | exact HB.out | apply below_alloc | apply pw_below_drewN | apply below_drew1 | refine below_set ?_ GE155.out) | exact HB.out))) : w.heap.size ≤ gb156)); have n4_ := Aside0.mk ((by rw [hg]; exact (below_size (by repeat (first | (with_reducible first | exact HB.out | apply below_alloc | apply pw_below_drewN | apply below_drew1 | refine below_set ?_ GE155.out) | exact HB.out))) : w.heap.size ≤ gb156)); have n5_ := Aside0.mk ((by rw [hg]; exact Nat.ne_of_lt (blk_lt (g := gb155) (o := .cells #[.int .i64 a0_0, .int .i64 a0_1, .string a0_2] 32 (0, 0)) (by (with_reducible repeat (first | refine blk_drewN ?_ _ | refine blk_drew ?_ | refine blk_alloc ?_ _)); exact BK155.out)) : gb155 ≠ gb156)); have n6_ := Aside0.mk ((by rw [hg]; exact Nat.ne_of_gt (blk_lt (g := gb155) (o := .cells #[.int .i64 a0_0, .int .i64 a0_1, .string a0_2] 32 (0, 0)) (by (with_reducible repeat (first | refine blk_drewN ?_ _ | refine blk_drew ?_ | refine blk_alloc ?_ _)); exact BK155.out)) : gb156 ≠ gb155)); clear BK155; clear HB; have BK155 := n0_; have HB := n1_; have BK156 := n2_; have GW156 := n3_; have GE156 := n4_; have NB155_156 := n5_; have NB156_155 := n6_; clear n0_ n1_ n2_ n3_ n4_ n5_ n6_; clear hb hbox hg))
        have n0_ := Aside0.mk (blk_drew BK155.out)
        have n1_ := Aside0.mk (blk_drew BK156.out)
        have n2_ := Aside0.mk (below_drew1 HB.out)
        clear BK155
        clear BK156
        clear HB
        have BK155 := n0_
        have BK156 := n1_
        have HB := n2_
        clear n0_ n1_ n2_
        refine start_ (n := 6) (S := fun w' => w'.cell? ⟨gb155, 0, none⟩ = some (.int .i64 a0_0) ∧ w'.cell? ⟨gb155, 1, none⟩ = some (.int .i64 a0_1) ∧ w'.cell? ⟨gb155, 2, none⟩ = some (.string a0_2) ∧ w'.cell? ⟨gb156, 0, none⟩ = some (.int .i64 a1_0) ∧ w'.cell? ⟨gb156, 1, none⟩ = some (.int .i64 a1_1) ∧ w'.cell? ⟨gb156, 2, none⟩ = some (.string a1_2)) (ds := []) #[false, false, false, false, false, false] (by kernel_rfl) rfl rfl ⟨(blk_cell BK155.out 0).trans rfl, (blk_cell BK155.out 1).trans rfl, (blk_cell BK155.out 2).trans rfl, (blk_cell BK156.out 0).trans rfl, (blk_cell BK156.out 1).trans rfl, (blk_cell BK156.out 2).trans rfl⟩ (fun hHeld => ?_)
        generalize w9.drew = w10 at BK155 BK156 HB hHeld ⊢
        refine take_ (i := 0) (N := some 7) (v := ?_) (a' := ?_) #[true, false, false, false, false, false] rfl rfl (by kernel_rfl) (fun _ _ _ h => h) (Or.inl ⟨by rfl, ?_⟩) hHeld ?_ ?_
        rotate_left
        · rintro w' ⟨s0, s1, s2, s3, s4, s5⟩
          go_simp
          with_reducible rfl
        rotate_left
        · simp only [Act.put, List.setIfInBounds_toArray, List.set_cons_zero, List.set_cons_succ, i64_w, i32_w]
          rfl
        refine take_ (i := 2) (N := some 9) (v := ?_) (a' := ?_) #[true, false, true, false, false, false] rfl rfl (by kernel_rfl) (fun _ _ _ h => h) (Or.inl ⟨by rfl, ?_⟩) hHeld ?_ ?_
        rotate_left
        · rintro w' ⟨s0, s1, s2, s3, s4, s5⟩
          go_simp
          with_reducible rfl
        rotate_left
        · simp only [Act.put, List.setIfInBounds_toArray, List.set_cons_zero, List.set_cons_succ, i64_w, i32_w]
          rfl
        refine one_ (i := 1) (N := some 8) #[true, true, true, false, false, false] rfl rfl (by kernel_rfl) (by decide) (fun K hK => ?_)
        refine goes_ Tryd.func64 (by kernel_rfl) rfl #[.agg #[.int .i64 a0_0, .int .i64 a0_1, .string a0_2]] (by rfl) rfl rfl (by (try simp only [List.map_toArray, List.map_cons, List.map_nil]); first | done | rfl | (simp only [List.length_drop, List.length_take]; rfl)) ?_
        with_reducible refine (selkieref01_Type.calls a0_0 a0_1 a0_2 t157 _ A3.out).mono ?_
        rintro e w11 ⟨rfl, hb⟩
        refine ⟨_, rfl, ?_⟩
        have n0_ := Aside0.mk (blk_below (g := gb155) (o := .cells #[.int .i64 a0_0, .int .i64 a0_1, .string a0_2] 32 (0, 0)) (by (with_reducible repeat (first | refine blk_drewN ?_ _ | refine blk_drew ?_ | refine blk_alloc ?_ _)); exact BK155.out) hb)
        have n1_ := Aside0.mk (blk_below (g := gb156) (o := .cells #[.int .i64 a1_0, .int .i64 a1_1, .string a1_2] 32 (0, 0)) (by (with_reducible repeat (first | refine blk_drewN ?_ _ | refine blk_drew ?_ | refine blk_alloc ?_ _)); exact BK156.out) hb)
        have n2_ := Aside0.mk (below_step (by repeat (first | (with_reducible first | exact HB.out | apply below_alloc | apply pw_below_drewN | apply below_drew1 | refine below_set ?_ GE155.out | refine below_set ?_ GE156.out) | exact HB.out)) hb)
        clear BK155
        clear BK156
        clear HB
        have BK155 := n0_
        have BK156 := n1_
        have HB := n2_
        clear n0_ n1_ n2_
        (try clear hb)
        (try clear hb2)
        (try clear hk)
        (try clear hi)
        refine hK.out _ _ ⟨(blk_cell BK155.out 0).trans rfl, (blk_cell BK155.out 1).trans rfl, (blk_cell BK155.out 2).trans rfl, (blk_cell BK156.out 0).trans rfl, (blk_cell BK156.out 1).trans rfl, (blk_cell BK156.out 2).trans rfl⟩ (fun hHeld => ?_)
        clear hK K
        refine norm_ (a' := ?_) ?_ ?_
        rotate_left
        · show Act.put _ (some 8) _ = _
          simp only [Act.put, List.setIfInBounds_toArray, List.set_cons_zero, List.set_cons_succ, i64_w, i32_w]
          rfl
        refine one_ (i := 3) (N := some 10) #[true, true, true, true, false, false] rfl rfl (by kernel_rfl) (by decide) (fun K hK => ?_)
        refine goes_ Tryd.func64 (by kernel_rfl) rfl #[.agg #[.int .i64 a1_0, .int .i64 a1_1, .string a1_2]] (by rfl) rfl rfl (by (try simp only [List.map_toArray, List.map_cons, List.map_nil]); first | done | rfl | (simp only [List.length_drop, List.length_take]; rfl)) ?_
        with_reducible refine (selkieref01_Type.calls a1_0 a1_1 a1_2 t158 _ A4.out).mono ?_
        rintro e w12 ⟨rfl, hb⟩
        refine ⟨_, rfl, ?_⟩
        have n0_ := Aside0.mk (blk_below (g := gb155) (o := .cells #[.int .i64 a0_0, .int .i64 a0_1, .string a0_2] 32 (0, 0)) (by (with_reducible repeat (first | refine blk_drewN ?_ _ | refine blk_drew ?_ | refine blk_alloc ?_ _)); exact BK155.out) hb)
        have n1_ := Aside0.mk (blk_below (g := gb156) (o := .cells #[.int .i64 a1_0, .int .i64 a1_1, .string a1_2] 32 (0, 0)) (by (with_reducible repeat (first | refine blk_drewN ?_ _ | refine blk_drew ?_ | refine blk_alloc ?_ _)); exact BK156.out) hb)
        have n2_ := Aside0.mk (below_step (by repeat (first | (with_reducible first | exact HB.out | apply below_alloc | apply pw_below_drewN | apply below_drew1 | refine below_set ?_ GE155.out | refine below_set ?_ GE156.out) | exact HB.out)) hb)
        clear BK155
        clear BK156
        clear HB
        have BK155 := n0_
        have BK156 := n1_
        have HB := n2_
        clear n0_ n1_ n2_
        (try clear hb)
        (try clear hb2)
        (try clear hk)
        (try clear hi)
        refine hK.out _ _ ⟨(blk_cell BK155.out 0).trans rfl, (blk_cell BK155.out 1).trans rfl, (blk_cell BK155.out 2).trans rfl, (blk_cell BK156.out 0).trans rfl, (blk_cell BK156.out 1).trans rfl, (blk_cell BK156.out 2).trans rfl⟩ (fun hHeld => ?_)
        clear hK K
        refine norm_ (a' := ?_) ?_ ?_
        rotate_left
        · show Act.put _ (some 10) _ = _
          simp only [Act.put, List.setIfInBounds_toArray, List.set_cons_zero, List.set_cons_succ, i64_w, i32_w]
          rfl
        refine pure_ (i := 4) (N := some 5) (v := ?_) (a' := ?_) #[true, true, true, true, true, false] rfl rfl (by kernel_rfl) (fun _ _ _ h => h) (Or.inl ⟨by rfl, ?_⟩) ?_ ?_
        rotate_left
        · intro w'
          go_simp
          with_reducible rfl
        rotate_left
        · simp only [Act.put, List.setIfInBounds_toArray, List.set_cons_zero, List.set_cons_succ, i64_w, i32_w]
          rfl
        refine pure_ (i := 5) (N := some 6) (v := ?_) (a' := ?_) #[true, true, true, true, true, true] rfl rfl (by kernel_rfl) (fun _ _ _ h => h) (Or.inl ⟨by rfl, ?_⟩) ?_ ?_
        rotate_left
        · intro w'
          go_simp
          with_reducible rfl
        rotate_left
        · simp only [Act.put, List.setIfInBounds_toArray, List.set_cons_zero, List.set_cons_succ, i64_w, i32_w]
          rfl
        refine done_ (by kernel_rfl) ?_
        try go_wp2
        go_ret
        exact ⟨by first | rfl | (simp [errW_none, errW_some] <;> rfl) | (simp [*, errW_none, errW_some] <;> rfl), by repeat (first | (with_reducible first | exact HB.out | apply below_alloc | apply pw_below_drewN | apply below_drew1 | refine below_set ?_ GE155.out | refine below_set ?_ GE156.out) | exact HB.out)⟩
      · rw [if_neg c7] at H
        exact absurd H (by simp)
    · rw [if_neg c6] at H
      exact absurd H (by simp)
  · rw [if_neg c5] at H
    have c5b0 : (t157.toList == t158.toList) = false := beq_eq_false_iff_ne.mpr c5
    have c5b1 : (t157.toList != t158.toList) = true := bne_iff_ne.mpr c5
    by_cases c13 : 19 + t157.size ≤ 9223372036854775807
    · rw [if_pos c13] at H
      have c13b0 := eq_true c13
      have c13b1 : decide (19 + t157.size ≤ 9223372036854775807) = true := decide_eq_true c13
      try have c13b2 : (9223372036854775807 < 19 + t157.size) = False := eq_false (Nat.not_lt.2 c13)
      by_cases c14 : ((⟨#[97, 116, 116, 101, 109, 112, 116, 32, 116, 111, 32, 99, 111, 109, 112, 97, 114, 101, 32]⟩ : ByteArray) ++ t157).size + 6 ≤ 9223372036854775807
      · rw [if_pos c14] at H
        have c14b0 := eq_true c14
        have c14b1 : decide (((⟨#[97, 116, 116, 101, 109, 112, 116, 32, 116, 111, 32, 99, 111, 109, 112, 97, 114, 101, 32]⟩ : ByteArray) ++ t157).size + 6 ≤ 9223372036854775807) = true := decide_eq_true c14
        try have c14b2 : (9223372036854775807 < ((⟨#[97, 116, 116, 101, 109, 112, 116, 32, 116, 111, 32, 99, 111, 109, 112, 97, 114, 101, 32]⟩ : ByteArray) ++ t157).size + 6) = False := eq_false (Nat.not_lt.2 c14)
        (try (have c14e := c14b2; simp only [ByteArray.size_append, TabW.sizeL, List.length_cons, List.length_nil, Nat.zero_add, Nat.reduceAdd] at c14e))
        by_cases c15 : (((⟨#[97, 116, 116, 101, 109, 112, 116, 32, 116, 111, 32, 99, 111, 109, 112, 97, 114, 101, 32]⟩ : ByteArray) ++ t157) ++ (⟨#[32, 119, 105, 116, 104, 32]⟩ : ByteArray)).size + t158.size ≤ 9223372036854775807
        · rw [if_pos c15] at H
          have c15b0 := eq_true c15
          have c15b1 : decide ((((⟨#[97, 116, 116, 101, 109, 112, 116, 32, 116, 111, 32, 99, 111, 109, 112, 97, 114, 101, 32]⟩ : ByteArray) ++ t157) ++ (⟨#[32, 119, 105, 116, 104, 32]⟩ : ByteArray)).size + t158.size ≤ 9223372036854775807) = true := decide_eq_true c15
          try have c15b2 : (9223372036854775807 < (((⟨#[97, 116, 116, 101, 109, 112, 116, 32, 116, 111, 32, 99, 111, 109, 112, 97, 114, 101, 32]⟩ : ByteArray) ++ t157) ++ (⟨#[32, 119, 105, 116, 104, 32]⟩ : ByteArray)).size + t158.size) = False := eq_false (Nat.not_lt.2 c15)
          (try (have c15e := c15b2; simp only [ByteArray.size_append, TabW.sizeL, List.length_cons, List.length_nil, Nat.zero_add, Nat.reduceAdd] at c15e))
          obtain rfl := Option.some.inj H
          go_enter Tryd.func29, Tryd.ntmps29
          try go_wp2_with (first | ((with_reducible refine gate_dst (N := 2) rfl ?_); refine box_event ?hg (N := 2) ?hd (cs := #[.int .i64 a0_0, .int .i64 a0_1, .string a0_2]) (t := 32) ?hr ?_; (case hd => rfl); (case hg => rfl); (case hr => first | (go_simp; done) | (go_simp; rfl)); intro gb155 hg w16 hbox hb; have n0_ := Aside0.mk (below_step (by repeat (first | (with_reducible first | exact HB.out | apply below_alloc | apply pw_below_drewN | apply below_drew1) | exact HB.out)) hb); have n1_ := Aside0.mk (hbox); have n2_ := Aside0.mk ((by rw [hg]; exact (below_size (by repeat (first | (with_reducible first | exact HB.out | apply below_alloc | apply pw_below_drewN | apply below_drew1) | exact HB.out))) : w.heap.size ≤ gb155)); have n3_ := Aside0.mk ((by rw [hg]; exact (below_size (by repeat (first | (with_reducible first | exact HB.out | apply below_alloc | apply pw_below_drewN | apply below_drew1) | exact HB.out))) : w.heap.size ≤ gb155)); clear HB; have HB := n0_; have BK155 := n1_; have GW155 := n2_; have GE155 := n3_; clear n0_ n1_ n2_ n3_; clear hb hbox hg) | ((with_reducible refine gate_dst (N := 3) rfl ?_); refine box_event ?hg (N := 3) ?hd (cs := #[.int .i64 a1_0, .int .i64 a1_1, .string a1_2]) (t := 32) ?hr ?_; (case hd => rfl); (case hg => rfl); (case hr => first | (go_simp; done) | (go_simp; rfl)); intro gb156 hg w17 hbox hb; have n0_ := Aside0.mk (blk_below (g := gb155) (o := .cells #[.int .i64 a0_0, .int .i64 a0_1, .string a0_2] 32 (0, 0)) (by (with_reducible repeat (first | refine blk_drewN ?_ _ | refine blk_drew ?_ | refine blk_alloc ?_ _)); exact BK155.out) hb); have n1_ := Aside0.mk (below_step (by repeat (first | (with_reducible first | exact HB.out | apply below_alloc | apply pw_below_drewN | apply below_drew1 | refine below_set ?_ GE155.out) | exact HB.out)) hb); have n2_ := Aside0.mk (hbox); have n3_ := Aside0.mk ((by rw [hg]; exact (below_size (by repeat (first | (with_reducible first | exact HB.out | apply below_alloc | apply pw_below_drewN | apply below_drew1 | refine below_set ?_ GE155.out) | exact HB.out))) : w.heap.size ≤ gb156)); have n4_ := Aside0.mk ((by rw [hg]; exact (below_size (by repeat (first | (with_reducible first | exact HB.out | apply below_alloc | apply pw_below_drewN | apply below_drew1 | refine below_set ?_ GE155.out) | exact HB.out))) : w.heap.size ≤ gb156)); have n5_ := Aside0.mk ((by rw [hg]; exact Nat.ne_of_lt (blk_lt (g := gb155) (o := .cells #[.int .i64 a0_0, .int .i64 a0_1, .string a0_2] 32 (0, 0)) (by (with_reducible repeat (first | refine blk_drewN ?_ _ | refine blk_drew ?_ | refine blk_alloc ?_ _)); exact BK155.out)) : gb155 ≠ gb156)); have n6_ := Aside0.mk ((by rw [hg]; exact Nat.ne_of_gt (blk_lt (g := gb155) (o := .cells #[.int .i64 a0_0, .int .i64 a0_1, .string a0_2] 32 (0, 0)) (by (with_reducible repeat (first | refine blk_drewN ?_ _ | refine blk_drew ?_ | refine blk_alloc ?_ _)); exact BK155.out)) : gb156 ≠ gb155)); clear BK155; clear HB; have BK155 := n0_; have HB := n1_; have BK156 := n2_; have GW156 := n3_; have GE156 := n4_; have NB155_156 := n5_; have NB156_155 := n6_; clear n0_ n1_ n2_ n3_ n4_ n5_ n6_; clear hb hbox hg))
          have n0_ := Aside0.mk (blk_drew BK155.out)
          have n1_ := Aside0.mk (blk_drew BK156.out)
          have n2_ := Aside0.mk (below_drew1 HB.out)
          clear BK155
          clear BK156
          clear HB
          have BK155 := n0_
          have BK156 := n1_
          have HB := n2_
          clear n0_ n1_ n2_
          refine start_ (n := 6) (S := fun w' => w'.cell? ⟨gb155, 0, none⟩ = some (.int .i64 a0_0) ∧ w'.cell? ⟨gb155, 1, none⟩ = some (.int .i64 a0_1) ∧ w'.cell? ⟨gb155, 2, none⟩ = some (.string a0_2) ∧ w'.cell? ⟨gb156, 0, none⟩ = some (.int .i64 a1_0) ∧ w'.cell? ⟨gb156, 1, none⟩ = some (.int .i64 a1_1) ∧ w'.cell? ⟨gb156, 2, none⟩ = some (.string a1_2)) (ds := []) #[false, false, false, false, false, false] (by kernel_rfl) rfl rfl ⟨(blk_cell BK155.out 0).trans rfl, (blk_cell BK155.out 1).trans rfl, (blk_cell BK155.out 2).trans rfl, (blk_cell BK156.out 0).trans rfl, (blk_cell BK156.out 1).trans rfl, (blk_cell BK156.out 2).trans rfl⟩ (fun hHeld => ?_)
          generalize w17.drew = w18 at BK155 BK156 HB hHeld ⊢
          refine take_ (i := 0) (N := some 7) (v := ?_) (a' := ?_) #[true, false, false, false, false, false] rfl rfl (by kernel_rfl) (fun _ _ _ h => h) (Or.inl ⟨by rfl, ?_⟩) hHeld ?_ ?_
          rotate_left
          · rintro w' ⟨s0, s1, s2, s3, s4, s5⟩
            go_simp
            with_reducible rfl
          rotate_left
          · simp only [Act.put, List.setIfInBounds_toArray, List.set_cons_zero, List.set_cons_succ, i64_w, i32_w]
            rfl
          refine take_ (i := 2) (N := some 9) (v := ?_) (a' := ?_) #[true, false, true, false, false, false] rfl rfl (by kernel_rfl) (fun _ _ _ h => h) (Or.inl ⟨by rfl, ?_⟩) hHeld ?_ ?_
          rotate_left
          · rintro w' ⟨s0, s1, s2, s3, s4, s5⟩
            go_simp
            with_reducible rfl
          rotate_left
          · simp only [Act.put, List.setIfInBounds_toArray, List.set_cons_zero, List.set_cons_succ, i64_w, i32_w]
            rfl
          refine one_ (i := 1) (N := some 8) #[true, true, true, false, false, false] rfl rfl (by kernel_rfl) (by decide) (fun K hK => ?_)
          refine goes_ Tryd.func64 (by kernel_rfl) rfl #[.agg #[.int .i64 a0_0, .int .i64 a0_1, .string a0_2]] (by rfl) rfl rfl (by (try simp only [List.map_toArray, List.map_cons, List.map_nil]); first | done | rfl | (simp only [List.length_drop, List.length_take]; rfl)) ?_
          with_reducible refine (selkieref01_Type.calls a0_0 a0_1 a0_2 t157 _ A3.out).mono ?_
          rintro e w19 ⟨rfl, hb⟩
          refine ⟨_, rfl, ?_⟩
          have n0_ := Aside0.mk (blk_below (g := gb155) (o := .cells #[.int .i64 a0_0, .int .i64 a0_1, .string a0_2] 32 (0, 0)) (by (with_reducible repeat (first | refine blk_drewN ?_ _ | refine blk_drew ?_ | refine blk_alloc ?_ _)); exact BK155.out) hb)
          have n1_ := Aside0.mk (blk_below (g := gb156) (o := .cells #[.int .i64 a1_0, .int .i64 a1_1, .string a1_2] 32 (0, 0)) (by (with_reducible repeat (first | refine blk_drewN ?_ _ | refine blk_drew ?_ | refine blk_alloc ?_ _)); exact BK156.out) hb)
          have n2_ := Aside0.mk (below_step (by repeat (first | (with_reducible first | exact HB.out | apply below_alloc | apply pw_below_drewN | apply below_drew1 | refine below_set ?_ GE155.out | refine below_set ?_ GE156.out) | exact HB.out)) hb)
          clear BK155
          clear BK156
          clear HB
          have BK155 := n0_
          have BK156 := n1_
          have HB := n2_
          clear n0_ n1_ n2_
          (try clear hb)
          (try clear hb2)
          (try clear hk)
          (try clear hi)
          refine hK.out _ _ ⟨(blk_cell BK155.out 0).trans rfl, (blk_cell BK155.out 1).trans rfl, (blk_cell BK155.out 2).trans rfl, (blk_cell BK156.out 0).trans rfl, (blk_cell BK156.out 1).trans rfl, (blk_cell BK156.out 2).trans rfl⟩ (fun hHeld => ?_)
          clear hK K
          refine norm_ (a' := ?_) ?_ ?_
          rotate_left
          · show Act.put _ (some 8) _ = _
            simp only [Act.put, List.setIfInBounds_toArray, List.set_cons_zero, List.set_cons_succ, i64_w, i32_w]
            rfl
          refine one_ (i := 3) (N := some 10) #[true, true, true, true, false, false] rfl rfl (by kernel_rfl) (by decide) (fun K hK => ?_)
          refine goes_ Tryd.func64 (by kernel_rfl) rfl #[.agg #[.int .i64 a1_0, .int .i64 a1_1, .string a1_2]] (by rfl) rfl rfl (by (try simp only [List.map_toArray, List.map_cons, List.map_nil]); first | done | rfl | (simp only [List.length_drop, List.length_take]; rfl)) ?_
          with_reducible refine (selkieref01_Type.calls a1_0 a1_1 a1_2 t158 _ A4.out).mono ?_
          rintro e w20 ⟨rfl, hb⟩
          refine ⟨_, rfl, ?_⟩
          have n0_ := Aside0.mk (blk_below (g := gb155) (o := .cells #[.int .i64 a0_0, .int .i64 a0_1, .string a0_2] 32 (0, 0)) (by (with_reducible repeat (first | refine blk_drewN ?_ _ | refine blk_drew ?_ | refine blk_alloc ?_ _)); exact BK155.out) hb)
          have n1_ := Aside0.mk (blk_below (g := gb156) (o := .cells #[.int .i64 a1_0, .int .i64 a1_1, .string a1_2] 32 (0, 0)) (by (with_reducible repeat (first | refine blk_drewN ?_ _ | refine blk_drew ?_ | refine blk_alloc ?_ _)); exact BK156.out) hb)
          have n2_ := Aside0.mk (below_step (by repeat (first | (with_reducible first | exact HB.out | apply below_alloc | apply pw_below_drewN | apply below_drew1 | refine below_set ?_ GE155.out | refine below_set ?_ GE156.out) | exact HB.out)) hb)
          clear BK155
          clear BK156
          clear HB
          have BK155 := n0_
          have BK156 := n1_
          have HB := n2_
          clear n0_ n1_ n2_
          (try clear hb)
          (try clear hb2)
          (try clear hk)
          (try clear hi)
          refine hK.out _ _ ⟨(blk_cell BK155.out 0).trans rfl, (blk_cell BK155.out 1).trans rfl, (blk_cell BK155.out 2).trans rfl, (blk_cell BK156.out 0).trans rfl, (blk_cell BK156.out 1).trans rfl, (blk_cell BK156.out 2).trans rfl⟩ (fun hHeld => ?_)
          clear hK K
          refine norm_ (a' := ?_) ?_ ?_
          rotate_left
          · show Act.put _ (some 10) _ = _
            simp only [Act.put, List.setIfInBounds_toArray, List.set_cons_zero, List.set_cons_succ, i64_w, i32_w]
            rfl
          refine pure_ (i := 4) (N := some 5) (v := ?_) (a' := ?_) #[true, true, true, true, true, false] rfl rfl (by kernel_rfl) (fun _ _ _ h => h) (Or.inl ⟨by rfl, ?_⟩) ?_ ?_
          rotate_left
          · intro w'
            go_simp
            with_reducible rfl
          rotate_left
          · simp only [Act.put, List.setIfInBounds_toArray, List.set_cons_zero, List.set_cons_succ, i64_w, i32_w]
            rfl
          refine pure_ (i := 5) (N := some 6) (v := ?_) (a' := ?_) #[true, true, true, true, true, true] rfl rfl (by kernel_rfl) (fun _ _ _ h => h) (Or.inl ⟨by rfl, ?_⟩) ?_ ?_
          rotate_left
          · intro w'
            go_simp
            with_reducible rfl
          rotate_left
          · simp only [Act.put, List.setIfInBounds_toArray, List.set_cons_zero, List.set_cons_succ, i64_w, i32_w]
            rfl
          refine done_ (by kernel_rfl) ?_
          try go_wp2
          go_ret
          exact ⟨by first | rfl | (simp [errW_none, errW_some] <;> rfl) | (simp [*, errW_none, errW_some] <;> rfl), by repeat (first | (with_reducible first | exact HB.out | apply below_alloc | apply pw_below_drewN | apply below_drew1 | refine below_set ?_ GE155.out | refine below_set ?_ GE156.out) | exact HB.out)⟩
        · rw [if_neg c15] at H
          exact absurd H (by simp)
      · rw [if_neg c14] at H
        exact absurd H (by simp)
    · rw [if_neg c13] at H
      exact absurd H (by simp)

/-! ### selkieref01_Digits: function 67 -/
def selkieref01_Digits.f (a0 : Int) : Option (ByteArray) := GW.digitsF a0
theorem selkieref01_Digits.calls (a0 : Int) (r : ByteArray) (w : World) (hT : TabW.Tab w) (h : selkieref01_Digits.f a0 = some r) :
    Calls Tryd.prog 67 #[.int .i64 a0] w fun e w' => e = .returned (.string r) ∧ Below w.heap.size w w' := GW.digits_calls a0 r w hT h

/-! ### selkieref10_Error: function 31 -/
def selkieref10_Error.f (a0_0 : Int) (a0_1 : Int) (a0_2 : ByteArray) : Option (ByteArray) := if a0_0 = 2 then ((selkieref01_Digits.f a0_1).bind fun t160 => (some t160)) else (if a0_0 = 3 then (some a0_2) else ((selkieref01_Type.f a0_0 a0_1 a0_2).bind fun t161 => (if 19 + t161.size ≤ 9223372036854775807 then (if ((⟨#[40, 101, 114, 114, 111, 114, 32, 111, 98, 106, 101, 99, 116, 32, 105, 115, 32, 97, 32]⟩ : ByteArray) ++ t161).size + 7 ≤ 9223372036854775807 then (some (((⟨#[40, 101, 114, 114, 111, 114, 32, 111, 98, 106, 101, 99, 116, 32, 105, 115, 32, 97, 32]⟩ : ByteArray) ++ t161) ++ (⟨#[32, 118, 97, 108, 117, 101, 41]⟩ : ByteArray))) else (none)) else (none))))
set_option maxHeartbeats 8000000 in
set_option maxRecDepth 100000 in
theorem selkieref10_Error.calls (a0_0 : Int) (a0_1 : Int) (a0_2 : ByteArray) (r : ByteArray) (w : World) (hT : Go.Proofs.YtpgpmldaggpciaaDoor.TabW.Tab w) (h : selkieref10_Error.f a0_0 a0_1 a0_2 = some r) :
    Calls Tryd.prog 31 #[.agg #[.int .i64 a0_0, .int .i64 a0_1, .string a0_2]] w fun e w' => e = .returned (.string r) ∧ Below w.heap.size w w' := by
  have hu32 := Tryd.underlying32
  have HB := Aside0.mk (Below.refl w.heap.size w)
  have HTT := Aside0.mk hT
  clear hT
  have H : (if a0_0 = 2 then ((selkieref01_Digits.f a0_1).bind fun t160 => (some t160)) else (if a0_0 = 3 then (some a0_2) else ((selkieref01_Type.f a0_0 a0_1 a0_2).bind fun t161 => (if 19 + t161.size ≤ 9223372036854775807 then (if ((⟨#[40, 101, 114, 114, 111, 114, 32, 111, 98, 106, 101, 99, 116, 32, 105, 115, 32, 97, 32]⟩ : ByteArray) ++ t161).size + 7 ≤ 9223372036854775807 then (some (((⟨#[40, 101, 114, 114, 111, 114, 32, 111, 98, 106, 101, 99, 116, 32, 105, 115, 32, 97, 32]⟩ : ByteArray) ++ t161) ++ (⟨#[32, 118, 97, 108, 117, 101, 41]⟩ : ByteArray))) else (none)) else (none))))) = some r := h
  clear h
  by_cases c2 : a0_0 = 2
  · rw [if_pos c2] at H
    have c2b0 : (a0_0 == 2) = true := beq_iff_eq.mpr c2
    have c2b1 : (a0_0 != 2) = false := bne_eq_false_iff_eq.mpr c2
    clear c2
    replace H := Option.bind_eq_some_iff.mp H
    obtain ⟨t160, A30, H⟩ := H
    replace H : (some t160) = some r := H
    have A3 := Aside0.mk A30
    clear A30
    obtain rfl := Option.some.inj H
    go_enter Tryd.func31, Tryd.ntmps31
    go_wp2_with (first | ((with_reducible refine gate_dst (N := 1) rfl ?_); refine box_event ?hg (N := 1) ?hd (cs := #[.int .i64 a0_0, .int .i64 a0_1, .string a0_2]) (t := 32) ?hr ?_; (case hd => rfl); (case hg => rfl); (case hr => first | (go_simp; done) | (go_simp; rfl)); intro gb159 hg w4 hbox hb; have n0_ := Aside0.mk (below_step (by repeat (first | (with_reducible first | exact HB.out | apply below_alloc | apply pw_below_drewN | apply below_drew1) | exact HB.out)) hb); have n1_ := Aside0.mk (hbox); have n2_ := Aside0.mk ((by rw [hg]; exact (below_size (by repeat (first | (with_reducible first | exact HB.out | apply below_alloc | apply pw_below_drewN | apply below_drew1) | exact HB.out))) : w.heap.size ≤ gb159)); have n3_ := Aside0.mk ((by rw [hg]; exact (below_size (by repeat (first | (with_reducible first | exact HB.out | apply below_alloc | apply pw_below_drewN | apply below_drew1) | exact HB.out))) : w.heap.size ≤ gb159)); clear HB; have HB := n0_; have BK159 := n1_; have GW159 := n2_; have GE159 := n3_; clear n0_ n1_ n2_ n3_; clear hb hbox hg; have hcz5_0 : w4.cell? ⟨gb159, 0, none⟩ = some (.int .i64 a0_0) := (blk_cell BK159.out 0).trans rfl; have hcz5_1 : w4.cell? ⟨gb159, 1, none⟩ = some (.int .i64 a0_1) := (blk_cell BK159.out 1).trans rfl; have hcz5_2 : w4.cell? ⟨gb159, 2, none⟩ = some (.string a0_2) := (blk_cell BK159.out 2).trans rfl; have hfz5_0 := blk_frozen BK159.out 0; have hfz5_1 := blk_frozen BK159.out 1; have hfz5_2 := blk_frozen BK159.out 2) | ((with_reducible refine gate_callee (f := 67) rfl ?_); refine goesL_ (some 9) rfl rfl Tryd.func67 (by kernel_rfl) rfl #[.int .i64 a0_1] rfl (by (try simp only [List.map_toArray, List.map_cons, List.map_nil]); first | done | rfl | (simp only [List.length_drop, List.length_take]; rfl)) ?_; (with_reducible refine (selkieref01_Digits.calls a0_1 t160 _ (HTT.out.on (by repeat (first | (with_reducible first | exact HB.out | apply below_alloc | apply pw_below_drewN | apply below_drew1 | refine below_set ?_ GE159.out) | exact HB.out))) A3.out).mono ?_); rintro e w6 ⟨rfl, hb⟩; refine ⟨_, rfl, ?_⟩; have n0_ := Aside0.mk (blk_below (g := gb159) (o := .cells #[.int .i64 a0_0, .int .i64 a0_1, .string a0_2] 32 (0, 0)) (by (with_reducible repeat (first | refine blk_drewN ?_ _ | refine blk_drew ?_ | refine blk_alloc ?_ _)); exact BK159.out) hb); have n1_ := Aside0.mk (below_step (by repeat (first | (with_reducible first | exact HB.out | apply below_alloc | apply pw_below_drewN | apply below_drew1 | refine below_set ?_ GE159.out) | exact HB.out)) hb); clear BK159; clear HB; have BK159 := n0_; have HB := n1_; clear n0_ n1_; (try clear hb); (try clear hb2); (try clear hk); (try clear hi)))
    go_ret
    exact ⟨by first | rfl | (simp [errW_none, errW_some] <;> rfl) | (simp [*, errW_none, errW_some] <;> rfl), by repeat (first | (with_reducible first | exact HB.out | apply below_alloc | apply pw_below_drewN | apply below_drew1 | refine below_set ?_ GE159.out) | exact HB.out)⟩
  · rw [if_neg c2] at H
    have c2b0 : (a0_0 == 2) = false := beq_eq_false_iff_ne.mpr c2
    have c2b1 : (a0_0 != 2) = true := bne_iff_ne.mpr c2
    by_cases c7 : a0_0 = 3
    · rw [if_pos c7] at H
      have c7b0 : (a0_0 == 3) = true := beq_iff_eq.mpr c7
      have c7b1 : (a0_0 != 3) = false := bne_eq_false_iff_eq.mpr c7
      clear c7
      obtain rfl := Option.some.inj H
      go_enter Tryd.func31, Tryd.ntmps31
      go_wp2_with (first | ((with_reducible refine gate_dst (N := 1) rfl ?_); refine box_event ?hg (N := 1) ?hd (cs := #[.int .i64 a0_0, .int .i64 a0_1, .string a0_2]) (t := 32) ?hr ?_; (case hd => rfl); (case hg => rfl); (case hr => first | (go_simp; done) | (go_simp; rfl)); intro gb159 hg w8 hbox hb; have n0_ := Aside0.mk (below_step (by repeat (first | (with_reducible first | exact HB.out | apply below_alloc | apply pw_below_drewN | apply below_drew1) | exact HB.out)) hb); have n1_ := Aside0.mk (hbox); have n2_ := Aside0.mk ((by rw [hg]; exact (below_size (by repeat (first | (with_reducible first | exact HB.out | apply below_alloc | apply pw_below_drewN | apply below_drew1) | exact HB.out))) : w.heap.size ≤ gb159)); have n3_ := Aside0.mk ((by rw [hg]; exact (below_size (by repeat (first | (with_reducible first | exact HB.out | apply below_alloc | apply pw_below_drewN | apply below_drew1) | exact HB.out))) : w.heap.size ≤ gb159)); clear HB; have HB := n0_; have BK159 := n1_; have GW159 := n2_; have GE159 := n3_; clear n0_ n1_ n2_ n3_; clear hb hbox hg; have hcz9_0 : w8.cell? ⟨gb159, 0, none⟩ = some (.int .i64 a0_0) := (blk_cell BK159.out 0).trans rfl; have hcz9_1 : w8.cell? ⟨gb159, 1, none⟩ = some (.int .i64 a0_1) := (blk_cell BK159.out 1).trans rfl; have hcz9_2 : w8.cell? ⟨gb159, 2, none⟩ = some (.string a0_2) := (blk_cell BK159.out 2).trans rfl; have hfz9_0 := blk_frozen BK159.out 0; have hfz9_1 := blk_frozen BK159.out 1; have hfz9_2 := blk_frozen BK159.out 2))
      go_ret
      exact ⟨by first | rfl | (simp [errW_none, errW_some] <;> rfl) | (simp [*, errW_none, errW_some] <;> rfl), by repeat (first | (with_reducible first | exact HB.out | apply below_alloc | apply pw_below_drewN | apply below_drew1 | refine below_set ?_ GE159.out) | exact HB.out)⟩
    · rw [if_neg c7] at H
      have c7b0 : (a0_0 == 3) = false := beq_eq_false_iff_ne.mpr c7
      have c7b1 : (a0_0 != 3) = true := bne_iff_ne.mpr c7
      replace H := Option.bind_eq_some_iff.mp H
      obtain ⟨t161, A100, H⟩ := H
      replace H : (if 19 + t161.size ≤ 9223372036854775807 then (if ((⟨#[40, 101, 114, 114, 111, 114, 32, 111, 98, 106, 101, 99, 116, 32, 105, 115, 32, 97, 32]⟩ : ByteArray) ++ t161).size + 7 ≤ 9223372036854775807 then (some (((⟨#[40, 101, 114, 114, 111, 114, 32, 111, 98, 106, 101, 99, 116, 32, 105, 115, 32, 97, 32]⟩ : ByteArray) ++ t161) ++ (⟨#[32, 118, 97, 108, 117, 101, 41]⟩ : ByteArray))) else (none)) else (none)) = some r := H
      have A10 := Aside0.mk A100
      clear A100
      by_cases c11 : 19 + t161.size ≤ 9223372036854775807
      · rw [if_pos c11] at H
        have c11b0 := eq_true c11
        have c11b1 : decide (19 + t161.size ≤ 9223372036854775807) = true := decide_eq_true c11
        try have c11b2 : (9223372036854775807 < 19 + t161.size) = False := eq_false (Nat.not_lt.2 c11)
        by_cases c12 : ((⟨#[40, 101, 114, 114, 111, 114, 32, 111, 98, 106, 101, 99, 116, 32, 105, 115, 32, 97, 32]⟩ : ByteArray) ++ t161).size + 7 ≤ 9223372036854775807
        · rw [if_pos c12] at H
          have c12b0 := eq_true c12
          have c12b1 : decide (((⟨#[40, 101, 114, 114, 111, 114, 32, 111, 98, 106, 101, 99, 116, 32, 105, 115, 32, 97, 32]⟩ : ByteArray) ++ t161).size + 7 ≤ 9223372036854775807) = true := decide_eq_true c12
          try have c12b2 : (9223372036854775807 < ((⟨#[40, 101, 114, 114, 111, 114, 32, 111, 98, 106, 101, 99, 116, 32, 105, 115, 32, 97, 32]⟩ : ByteArray) ++ t161).size + 7) = False := eq_false (Nat.not_lt.2 c12)
          (try (have c12e := c12b2; simp only [ByteArray.size_append, TabW.sizeL, List.length_cons, List.length_nil, Nat.zero_add, Nat.reduceAdd] at c12e))
          obtain rfl := Option.some.inj H
          go_enter Tryd.func31, Tryd.ntmps31
          go_wp2_with (first | ((with_reducible refine gate_dst (N := 1) rfl ?_); refine box_event ?hg (N := 1) ?hd (cs := #[.int .i64 a0_0, .int .i64 a0_1, .string a0_2]) (t := 32) ?hr ?_; (case hd => rfl); (case hg => rfl); (case hr => first | (go_simp; done) | (go_simp; rfl)); intro gb159 hg w13 hbox hb; have n0_ := Aside0.mk (below_step (by repeat (first | (with_reducible first | exact HB.out | apply below_alloc | apply pw_below_drewN | apply below_drew1) | exact HB.out)) hb); have n1_ := Aside0.mk (hbox); have n2_ := Aside0.mk ((by rw [hg]; exact (below_size (by repeat (first | (with_reducible first | exact HB.out | apply below_alloc | apply pw_below_drewN | apply below_drew1) | exact HB.out))) : w.heap.size ≤ gb159)); have n3_ := Aside0.mk ((by rw [hg]; exact (below_size (by repeat (first | (with_reducible first | exact HB.out | apply below_alloc | apply pw_below_drewN | apply below_drew1) | exact HB.out))) : w.heap.size ≤ gb159)); clear HB; have HB := n0_; have BK159 := n1_; have GW159 := n2_; have GE159 := n3_; clear n0_ n1_ n2_ n3_; clear hb hbox hg; have hcz14_0 : w13.cell? ⟨gb159, 0, none⟩ = some (.int .i64 a0_0) := (blk_cell BK159.out 0).trans rfl; have hcz14_1 : w13.cell? ⟨gb159, 1, none⟩ = some (.int .i64 a0_1) := (blk_cell BK159.out 1).trans rfl; have hcz14_2 : w13.cell? ⟨gb159, 2, none⟩ = some (.string a0_2) := (blk_cell BK159.out 2).trans rfl; have hfz14_0 := blk_frozen BK159.out 0; have hfz14_1 := blk_frozen BK159.out 1; have hfz14_2 := blk_frozen BK159.out 2) | ((with_reducible refine gate_callee (f := 64) rfl ?_); refine goesL_ (some 15) rfl rfl Tryd.func64 (by kernel_rfl) rfl #[.agg #[.int .i64 a0_0, .int .i64 a0_1, .string a0_2]] rfl (by (try simp only [List.map_toArray, List.map_cons, List.map_nil]); first | done | rfl | (simp only [List.length_drop, List.length_take]; rfl)) ?_; (with_reducible refine (selkieref01_Type.calls a0_0 a0_1 a0_2 t161 _ A10.out).mono ?_); rintro e w15 ⟨rfl, hb⟩; refine ⟨_, rfl, ?_⟩; have n0_ := Aside0.mk (blk_below (g := gb159) (o := .cells #[.int .i64 a0_0, .int .i64 a0_1, .string a0_2] 32 (0, 0)) (by (with_reducible repeat (first | refine blk_drewN ?_ _ | refine blk_drew ?_ | refine blk_alloc ?_ _)); exact BK159.out) hb); have n1_ := Aside0.mk (below_step (by repeat (first | (with_reducible first | exact HB.out | apply below_alloc | apply pw_below_drewN | apply below_drew1 | refine below_set ?_ GE159.out) | exact HB.out)) hb); clear BK159; clear HB; have BK159 := n0_; have HB := n1_; clear n0_ n1_; (try clear hb); (try clear hb2); (try clear hk); (try clear hi)))
          go_ret
          exact ⟨by first | rfl | (simp [errW_none, errW_some] <;> rfl) | (simp [*, errW_none, errW_some] <;> rfl), by repeat (first | (with_reducible first | exact HB.out | apply below_alloc | apply pw_below_drewN | apply below_drew1 | refine below_set ?_ GE159.out) | exact HB.out)⟩
        · rw [if_neg c12] at H
          exact absurd H (by simp)
      · rw [if_neg c11] at H
        exact absurd H (by simp)

end Go.Proofs.YtpgpmldaggpciaaDoor.PWo
