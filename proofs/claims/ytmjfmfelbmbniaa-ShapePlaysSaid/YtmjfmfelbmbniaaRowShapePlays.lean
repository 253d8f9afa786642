/- The row of the law ShapePlays: for every input the call returns true, and what came in reads as it did. -/
import Derived.Test.YtmjfmfelbmbniaaRows
import Derived.Test.YtmjfmfelbmbniaaArgs2
import Derived.Test.YtmjfmfelbmbniaaPlays
import Derived.Test.YtmjfmfelbmbniaaRow
import Derived.Test.YtmjfmfelbmbniaaJF
import Derived.Test.YtmjfmfelbmbniaaFacts
namespace Go.Proofs.Ytmjfmfelbmbniaa.shapePlays
open Go.ChangeShapes Go.WideShapes Go.ChangeAt Go.RowKit
open Go.ChangeMaps (open_string shut_string)
open Go.Joins Go.Deep
set_option linter.unusedVariables false
theorem own : ownKnob Try.prog.godebug = none := by kernel_rfl
theorem laid : laidOutB Try.prog = true := by kernel_rfl
theorem kinds : (Try.f5.params.toList.all fun t => decide (t < Try.prog.types.size) && Try.prog.readableRec t) = true := by kernel_rfl
theorem kinds_ : ∀ t ∈ Try.f5.params.toList, t < Try.prog.types.size ∧ Try.prog.readableRec t = true := by
  intro t ht; have := List.all_eq_true.1 kinds t ht; simpa using this
set_option maxRecDepth 100000 in
theorem lifted (os : Os) (started : os.Started) (H : Type) (enc : TypeId × Value → H) :
    ReturnsInHanded {} Try.checked os 5 .any (Rows.shapePlaysSpec.pre6 enc Try.prog Try.f5 Rows.shapePlaysRow.domain false) (Rows.shapePlaysSpec.post enc Try.prog Try.f5 false true false false) := by
  refine returnsInHanded_of_change_sized (C := Try.checked) own started (by kernel_rfl) Try.func5
    (ChangeSpec.witness6 (enc := enc) (C := Try.checked) false ⟨#[], #[.agg #[.int .i64 0, .int .i64 0, .slice none 0 0], .slice none 0 0, .agg #[.int .i64 0, .string ByteArray.empty]], []⟩ 8 (by kernel_rfl) (by kernel_rfl) (by kernel_rfl) (by kernel_rfl)) ?_
  intro W base args ds gs before hval0 hW hcnd hsz0 _
  have hsz : (DataW.weightsEach Try.prog (Try.f5.params.toList ++ Rows.shapePlaysSpec.plain.varTypes Try.prog) (ds ++ gs)).all (· ≤ reachBytes) = true := hsz0
  have hval : ∀ (j : Nat) t v, Try.f5.params[j]? = some t → args[j]? = some v → Value.okWide Try.prog W .any base t v := hval0
  have hW' := hW
  obtain ⟨p, q, hA0, hV, rfl, hfz, hnd⟩ := hW
  have hA : DataW.TrodAll enc Try.prog W 0 (fun _ => true) true Try.f5.params.toList args.toList ds p := hA0
  rw [Try.params5] at hA hval hsz
  obtain ⟨v0, vs0, d0, ds0, p0, q0, hargs, rfl, rfl, h0, r0⟩ := trodAll_cons hA
  obtain ⟨v1, vs1, d1, ds1, p1, q1, rfl, rfl, rfl, h1, r1⟩ := trodAll_cons r0
  obtain ⟨v2, vs2, d2, ds2, p2, q2, rfl, rfl, rfl, h2, r2⟩ := trodAll_cons r1
  obtain ⟨rfl, rfl, rfl⟩ := trodAll_nil r2
  obtain rfl : args = #[v0, v1, v2] := by cases args; simp_all
  obtain ⟨rfl, rfl⟩ := trodVars_none hV
  obtain ⟨fu0, hf0⟩ := h0
  obtain ⟨x0, hx0⟩ := rConf.opn hf0 (Opn.Sz.of_all hsz (j := 0) rfl rfl)
  obtain ⟨mv0, rfl, m1_0, m2_0, m3_0⟩ := use_conf (hval 0 24 v0 rfl rfl) hx0
  obtain ⟨fu1, hf1⟩ := h1
  obtain ⟨x1, hx1⟩ := rSteps.opn hf1 (Opn.Sz.of_all hsz (j := 1) rfl rfl)
  obtain ⟨sa1, sl1, sc1, rfl⟩ := okWide_slice Try.underlying25 (hval 1 25 v1 rfl rfl)
  have hx1' : rSteps.R W x1 [.slice sa1 sl1 sc1] := hx1
  have st1 := use_steps hx1'
  have su1 := use_steps2 hx1'
  obtain ⟨fu2, hf2⟩ := h2
  obtain ⟨x2, hx2⟩ := rStep.opn hf2 (Opn.Sz.of_all hsz (j := 2) rfl rfl)
  obtain ⟨rfl, sp2⟩ := use_step (hval 2 31 v2 rfl rfl) hx2
  refine (plays_walk _ _ _ _ (x2.1, x2.2.1) _ _ W m1_0 m2_0 m3_0 st1 su1.1 su1.2 sp2).mono fun e W' ⟨he, bel⟩ => ?_
  subst he
  exact ⟨_, rfl, RowLaws.post_true laid kinds_ rfl rfl Try.underlying4 hW' rfl bel⟩
set_option maxHeartbeats 2000000 in
theorem closed : joinedFacts Try.checked.prog 5 Try.f5 Rows.shapePlaysSpec Rows.shapePlaysRow = true :=
  JoinedFacts.of_parts (by as_aux_lemma => kernel_rfl) (by as_aux_lemma => kernel_rfl) (by as_aux_lemma => kernel_rfl) (by as_aux_lemma => kernel_rfl) (by as_aux_lemma => kernel_rfl) (by as_aux_lemma => kernel_rfl) (by as_aux_lemma => kernel_rfl) (by as_aux_lemma => kernel_rfl) (by as_aux_lemma => kernel_rfl) (by as_aux_lemma => kernel_rfl) (by as_aux_lemma => kernel_rfl) (by as_aux_lemma => kernel_rfl) (by as_aux_lemma => kernel_rfl) (by as_aux_lemma => kernel_rfl) (by as_aux_lemma => kernel_rfl) (by as_aux_lemma => kernel_rfl) (by as_aux_lemma => kernel_rfl) (by as_aux_lemma => kernel_rfl) (by as_aux_lemma => kernel_rfl) (by as_aux_lemma => kernel_rfl) (by as_aux_lemma => kernel_rfl) (by as_aux_lemma => kernel_rfl) (by as_aux_lemma => kernel_rfl) (by as_aux_lemma => kernel_rfl) Facts.heard Facts.enter Facts.lifts (by as_aux_lemma => kernel_rfl) (by as_aux_lemma => kernel_rfl) (by as_aux_lemma => kernel_rfl) (by as_aux_lemma => kernel_rfl) (by as_aux_lemma => kernel_rfl)
theorem over : Rows.shapePlaysRow.holds Try.pinned (OpenSpec.ofChange Rows.shapePlaysSpec) :=
  OpenClaim.holds_of_wide 5 Try.f5 rfl rfl rfl rfl rfl rfl rfl ⟨rfl, rfl, rfl, rfl, rfl⟩ rfl rfl rfl rfl rfl (by kernel_rfl) Try.func5 closed
    (of_decide_eq_true (by kernel_rfl)) (by unfold Func.isWrapper; first | (rw [if_pos (by decide +kernel)]; kernel_rfl) | (rw [if_neg (by decide +kernel)]; exact ⟨rfl, rfl⟩))
    (fun os started H enc _ => lifted os started H enc)
theorem proved : Rows.ShapePlaysSaid := over
#print axioms proved
end Go.Proofs.Ytmjfmfelbmbniaa.shapePlays
namespace Go.Proofs.Ytmjfmfelbmbniaa
theorem shapePlays_holds : Rows.ShapePlaysSaid := shapePlays.proved
end Go.Proofs.Ytmjfmfelbmbniaa
