/- The tied card of the law OperDoes: for every input the call returns true, and what came in reads as it did. -/
import Derived.Test.YtpgpmldaggpciaaGreatDoorRows
import Derived.Test.YtpgpmldaggpciaaGreatDoorLawDo
import Derived.Test.YtpgpmldaggpciaaGreatDoorAsk
import Derived.Test.YtpgpmldaggpciaaGreatDoorRow
import Derived.Test.YtpgpmldaggpciaaGreatDoorTie
import Derived.Test.YtpgpmldaggpciaaGreatDoorCards
import Derived.SevenTiedAt
import Derived.Stop.LaidErr
import Derived.Lay
namespace Go.Proofs.YtpgpmldaggpciaaGreatDoor.operDoes
open Go.ChangeShapes Go.WideShapes Go.ChangeAt Go.RowKit
open Go.ChangeMaps (open_string shut_string)
open Go.Joins Go.Deep
set_option linter.unusedVariables false
theorem own : ownKnob Tryz.prog.godebug = none := by kernel_rfl
theorem laid : laidOutB Tryz.prog = true := by kernel_rfl
theorem kinds : (Tryz.f4.params.toList.all fun t => decide (t < Tryz.prog.types.size) && Tryz.prog.readableRec t) = true := by kernel_rfl
theorem kinds_ : ∀ t ∈ Tryz.f4.params.toList, t < Tryz.prog.types.size ∧ Tryz.prog.readableRec t = true := by
  intro t ht; have := List.all_eq_true.1 kinds t ht; simpa using this
def laidL : List (String × DataW Unit) := [("math/bits.deBruijn32tab", Rows.laid_math_bits_deBruijn32tab), ("math/bits.deBruijn64tab", Rows.laid_math_bits_deBruijn64tab), ("internal/strconv.uint64pow10", Rows.laid_internal_strconv_uint64pow10), ("unicode/utf8.acceptRanges", Rows.laid_unicode_utf8_acceptRanges), ("strconv.ErrRange", Rows.laid_strconv_ErrRange), ("strconv.ErrSyntax", Rows.laid_strconv_ErrSyntax), ("unicode/utf8.first", Rows.laid_unicode_utf8_first)]
set_option maxRecDepth 100000 in
theorem door_met (os : Os) (args : Array Value) : laidMetH Tryz.prog laidL ((World.laidAll Tryz.prog os laidL).forCall (fun _ _ => 0) ⟨#[], args, []⟩).memory := by
  rw [MakeChecks.laidMetH_plain _ _ _ (by kernel_rfl)]; exact laidMet_laidAll _ (by kernel_rfl) (by kernel_rfl)
theorem star : "*" ++ "errors.errorString" = "*errors.errorString" := by decide
theorem tab_of (W : World) (hL : laidMetH Tryz.prog laidL W) : TabW.Tab W := by
  rw [MakeChecks.laidMetH_plain _ _ _ (by kernel_rfl)] at hL
  have h : laidMet Tryz.prog [("math/bits.deBruijn32tab", Rows.laid_math_bits_deBruijn32tab), ("math/bits.deBruijn64tab", Rows.laid_math_bits_deBruijn64tab), ("internal/strconv.uint64pow10", Rows.laid_internal_strconv_uint64pow10), ("unicode/utf8.acceptRanges", Rows.laid_unicode_utf8_acceptRanges), ("strconv.ErrRange", Rows.laid_strconv_ErrRange), ("strconv.ErrSyntax", Rows.laid_strconv_ErrSyntax), ("unicode/utf8.first", Rows.laid_unicode_utf8_first)] W := hL
  have h2 := RowLaws.laid_tail (RowLaws.laid_tail (h))
  exact TabW.Tab.of (Lib.tabIs_of_head (g := 0) (t := 123) (e := 70) (n := 20) (by kernel_rfl) (by kernel_rfl) Tryz.underlying123 Tryz.underlying70 (by kernel_rfl) (by kernel_rfl) h2) (by
    obtain ⟨a0, s0, hv0, -, -, -⟩ := laid_sentinel (RowLaws.laid_tail (RowLaws.laid_tail (RowLaws.laid_tail (RowLaws.laid_tail (h))))) (g := 4) (ti := 98) (tp := 140) (te := 142) (ts := 9) (by kernel_rfl) (by kernel_rfl) Tryz.underlying98
      (fun u h => typeName_ptr_named (nm := "errors.errorString") (by rw [star]; kernel_rfl) (by kernel_rfl) (by decide) u (by rw [star]; exact h)) Tryz.underlying140 Tryz.underlying142 rfl rfl Tryz.underlying9 (by kernel_rfl) (by kernel_rfl)
    exact ⟨_, _, hv0⟩)
set_option maxRecDepth 100000 in
theorem lifted (os : Os) (started : os.Started) (H : Type) (enc : TypeId × Value → H) :
    ReturnsInHanded {} Tryz.checked os 4 .any (fun w args => (Rows.operDoesSpec.pre enc Tryz.prog Tryz.f4 [] false w args ∧ laidMetH Tryz.prog laidL w) ∧ sizedMet enc Tryz.prog Tryz.f4 (OpenSpec.ofChange Rows.operDoesSpec) false w args)
      (Rows.operDoesSpec.post enc Tryz.prog Tryz.f4 false true false false) := by
  refine returnsInHanded_of_change_and (C := Tryz.checked) (X := fun w _ => laidMetH Tryz.prog laidL w) (fun _ _ _ hh h => h.of_heap hh) own started (by kernel_rfl) Tryz.func4
    (ChangeSpec.witness_shaped (enc := enc) (C := Tryz.checked) (os := os) (X := fun w _ => laidMetH Tryz.prog laidL w) false (World.laidAll Tryz.prog os laidL) #[.agg #[.int .i64 0, .int .i64 0, .int .i64 0, .string ⟨#[]⟩, .int .i64 0, .int .i64 0, .string ⟨#[]⟩, .int .i64 0]] 8 (World.laidAll_os _ _ _) (World.shaped_of_ZipB (by kernel_rfl) (by kernel_rfl)) (by kernel_rfl) (by kernel_rfl) (by kernel_rfl) (door_met os _)) ?_
  intro W base args ds gs before hval0 hW hcnd hsz0 hL _
  have hT := tab_of W hL
  have hsz : (DataW.weightsEach Tryz.prog (Tryz.f4.params.toList ++ Rows.operDoesSpec.plain.varTypes Tryz.prog) (ds ++ gs)).all (· ≤ reachBytes) = true := hsz0
  have hval : ∀ (j : Nat) t v, Tryz.f4.params[j]? = some t → args[j]? = some v → Value.okWide Tryz.prog W .any base t v := hval0
  have hW' := hW
  obtain ⟨p, q, hA0, hV, rfl, hfz, hnd⟩ := hW
  have hA : DataW.TrodAll enc Tryz.prog W 0 (fun _ => true) true Tryz.f4.params.toList args.toList ds p := hA0
  rw [Tryz.params4] at hA hval hsz
  obtain ⟨v0, vs0, d0, ds0, p0, q0, hargs, rfl, rfl, h0, r0⟩ := trodAll_cons hA
  obtain ⟨rfl, rfl, rfl⟩ := trodAll_nil r0
  obtain rfl : args = #[v0] := by cases args; simp_all
  obtain ⟨rfl, rfl⟩ := trodVars_none hV
  obtain ⟨x0_0, x0_1, x0_2, x0_3, x0_4, x0_5, x0_6, x0_7, y0_0, y0_1, y0_2, y0_3, y0_4, y0_5, y0_6, y0_7, n0, m0, m1, rfl, g0_0, g0_1, g0_2, g0_3, g0_4, g0_5, g0_6, g0_7⟩ := RowLaws.open_asked (enc := enc) (f0 := _) Tryz.underlying32 (by kernel_rfl) ⟨rfl, rfl, rfl, rfl⟩ ⟨by kernel_rfl, by kernel_rfl, by kernel_rfl, by kernel_rfl⟩ ⟨rfl, rfl⟩ Tryz.underlying23 (by kernel_rfl) (hval 0 32 v0 rfl rfl) h0
  obtain ⟨a0_0, e0_0, rfl, w0_0⟩ := DataW.trod_int Tryz.underlying3 g0_0
  obtain rfl := (List.cons.inj e0_0).1
  obtain ⟨a0_1, e0_1, rfl, w0_1⟩ := DataW.trod_int Tryz.underlying3 g0_1
  obtain rfl := (List.cons.inj e0_1).1
  obtain ⟨a0_2, e0_2, rfl, w0_2⟩ := DataW.trod_int Tryz.underlying2 g0_2
  obtain rfl := (List.cons.inj e0_2).1
  obtain ⟨a0_3, e0_3, rfl, w0_3⟩ := DataW.trod_string Tryz.underlying9 g0_3
  obtain rfl := (List.cons.inj e0_3).1
  obtain ⟨a0_4, e0_4, rfl, w0_4⟩ := DataW.trod_int Tryz.underlying3 g0_4
  obtain rfl := (List.cons.inj e0_4).1
  obtain ⟨a0_5, e0_5, rfl, w0_5⟩ := DataW.trod_int Tryz.underlying2 g0_5
  obtain rfl := (List.cons.inj e0_5).1
  obtain ⟨a0_6, e0_6, rfl, w0_6⟩ := DataW.trod_string Tryz.underlying9 g0_6
  obtain rfl := (List.cons.inj e0_6).1
  obtain ⟨a0_7, e0_7, rfl, w0_7⟩ := DataW.trod_int Tryz.underlying3 g0_7
  obtain rfl := (List.cons.inj e0_7).1
  refine (GW.does_walk a0_0 a0_1 a0_2 a0_3 a0_4 a0_5 a0_6 a0_7 (Maths.wf_i64 w0_2) (Maths.wf_i64 w0_5) W hT).mono fun e W' ⟨he, bel⟩ => ?_
  subst he
  exact ⟨_, rfl, RowLaws.post_true laid kinds_ rfl rfl Tryz.underlying4 hW' rfl (bel)⟩
theorem over : Rows.operDoesRow.holds Tryz.pinned (OpenSpec.ofChange Rows.operDoesSpec) :=
  OpenClaim.holds_of_wide 4 Tryz.f4 rfl rfl rfl rfl rfl rfl rfl ⟨rfl, rfl, rfl, rfl, rfl⟩ rfl rfl rfl rfl rfl (by kernel_rfl) Tryz.func4 (by kernel_rfl)
    (of_decide_eq_true (by kernel_rfl)) (by unfold Func.isWrapper; first | (rw [if_pos (by decide +kernel)]; kernel_rfl) | (rw [if_neg (by decide +kernel)]; exact ⟨rfl, rfl⟩))
    (fun os started H enc _ => lifted os started H enc)
theorem said : Rows.OperDoesSaid := over
theorem proved : Rows.OperDoesCardSaid :=
  Claim7.holds_tied_plain_at .later [] [.data, .data, .data, .data, .sentinel, .sentinel, .pinned] true (true, "cd55da55ae9eb05d21fce411db722f1757bc07c9a8c87d674b82d458a156a31c") true
    said (fun _ h => by cases h) (by kernel_rfl) (fun _ h => by cases h) operDoes_row_tie rfl ⟨rfl, rfl⟩ (by kernel_rfl) rfl
    (fun f fn hf hfn => by
      obtain rfl : f = 4 := Option.some.inj ((show Tryz.prog.funcNamed Rows.operDoesRow.func = some 4 by kernel_rfl).symm.trans hf) |>.symm
      obtain rfl : fn = Tryz.f4 := (Option.some.inj (Tryz.func4.symm.trans hfn)).symm
      exact ⟨by kernel_rfl, fun j t ht => by
        have hm : t ∈ Tryz.f4.params.toList := by simpa using Array.mem_of_getElem? ht
        have hall : (Tryz.f4.params.toList.all fun u => !Tryz.prog.wantsStandIn u) = true := by kernel_rfl
        exact (show Tryz.prog.wantsStandIn t = false by simpa using List.all_eq_true.1 hall t hm)⟩)
    (by kernel_rfl)
#print axioms proved
end Go.Proofs.YtpgpmldaggpciaaGreatDoor.operDoes
namespace Go.Proofs.YtpgpmldaggpciaaGreatDoor
theorem operDoes_holds : Rows.OperDoesCardSaid := operDoes.proved
end Go.Proofs.YtpgpmldaggpciaaGreatDoor
