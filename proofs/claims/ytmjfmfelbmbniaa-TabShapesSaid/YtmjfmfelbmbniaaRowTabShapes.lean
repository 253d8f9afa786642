/- The row of the law TabShapes: for every input the call returns true, and what came in reads as it did. -/
import Derived.Test.YtmjfmfelbmbniaaRows
import Derived.Test.YtmjfmfelbmbniaaArgs5
import Derived.Test.YtmjfmfelbmbniaaTbF
import Derived.Test.YtmjfmfelbmbniaaRow
import Derived.Test.YtmjfmfelbmbniaaJF
import Derived.Test.YtmjfmfelbmbniaaFacts
namespace Go.Proofs.Ytmjfmfelbmbniaa.tabShapes
open Go.ChangeShapes Go.WideShapes Go.ChangeAt Go.RowKit
open Go.ChangeMaps (open_string shut_string)
open Go.Joins Go.Deep
set_option linter.unusedVariables false
theorem own : ownKnob Try.prog.godebug = none := by kernel_rfl
theorem laid : laidOutB Try.prog = true := by kernel_rfl
theorem kinds : (Try.f19.params.toList.all fun t => decide (t < Try.prog.types.size) && Try.prog.readableRec t) = true := by kernel_rfl
theorem kinds_ : ∀ t ∈ Try.f19.params.toList, t < Try.prog.types.size ∧ Try.prog.readableRec t = true := by
  intro t ht; have := List.all_eq_true.1 kinds t ht; simpa using this
set_option maxRecDepth 100000 in
theorem lifted (os : Os) (started : os.Started) (H : Type) (enc : TypeId × Value → H) :
    ReturnsInHanded {} Try.checked os 19 .any (Rows.tabShapesSpec.pre6 enc Try.prog Try.f19 Rows.tabShapesRow.domain false) (Rows.tabShapesSpec.post enc Try.prog Try.f19 false true false false) := by
  refine returnsInHanded_of_change_sized (C := Try.checked) own started (by kernel_rfl) Try.func19
    (ChangeSpec.witness6 (enc := enc) (C := Try.checked) false ⟨#[], #[.int .i64 0, .int .i64 0, .slice none 0 0], []⟩ 8 (by kernel_rfl) (by kernel_rfl) (by kernel_rfl) (by kernel_rfl)) ?_
  intro W base args ds gs before hval0 hW hcnd hsz0 _
  have hsz : (DataW.weightsEach Try.prog (Try.f19.params.toList ++ Rows.tabShapesSpec.plain.varTypes Try.prog) (ds ++ gs)).all (· ≤ reachBytes) = true := hsz0
  have hval : ∀ (j : Nat) t v, Try.f19.params[j]? = some t → args[j]? = some v → Value.okWide Try.prog W .any base t v := hval0
  have hW' := hW
  obtain ⟨p, q, hA0, hV, rfl, hfz, hnd⟩ := hW
  have hA : DataW.TrodAll enc Try.prog W 0 (fun _ => true) true Try.f19.params.toList args.toList ds p := hA0
  rw [Try.params19] at hA hval hsz
  obtain ⟨v0, vs0, d0, ds0, p0, q0, hargs, rfl, rfl, h0, r0⟩ := trodAll_cons hA
  obtain ⟨v1, vs1, d1, ds1, p1, q1, rfl, rfl, rfl, h1, r1⟩ := trodAll_cons r0
  obtain ⟨v2, vs2, d2, ds2, p2, q2, rfl, rfl, rfl, h2, r2⟩ := trodAll_cons r1
  obtain ⟨rfl, rfl, rfl⟩ := trodAll_nil r2
  obtain rfl : args = #[v0, v1, v2] := by cases args; simp_all
  obtain ⟨rfl, rfl⟩ := trodVars_none hV
  obtain ⟨a0, rfl, rfl, rfl, w0⟩ := open_int Try.underlying3 (hval 0 3 v0 rfl rfl) h0
  obtain ⟨a1, rfl, rfl, rfl, w1⟩ := open_int Try.underlying3 (hval 1 3 v1 rfl rfl) h1
  obtain ⟨fu2, hf2⟩ := h2
  obtain ⟨x2, hx2⟩ := rOpsT.opn hf2 (Opn.Sz.of_all hsz (j := 2) rfl rfl)
  obtain ⟨sa2, sl2, sc2, rfl⟩ := okWide_slice Try.underlying124 (hval 2 124 v2 rfl rfl)
  have hx2' : rOpsT.R W x2 [.slice sa2 sl2 sc2] := hx2
  have ot2 := use_opst hx2'
  refine (tshapes_walk _ _ _ _ W ot2).mono fun e W' ⟨he, bel⟩ => ?_
  subst he
  exact ⟨_, rfl, RowLaws.post_true laid kinds_ rfl rfl Try.underlying4 hW' rfl bel⟩
set_option maxHeartbeats 2000000 in
theorem closed : joinedFacts Try.checked.prog 19 Try.f19 Rows.tabShapesSpec Rows.tabShapesRow = true :=
  JoinedFacts.of_parts (by as_aux_lemma => kernel_rfl) (by as_aux_lemma => kernel_rfl) (by as_aux_lemma => kernel_rfl) (by as_aux_lemma => kernel_rfl) (by as_aux_lemma => kernel_rfl) (by as_aux_lemma => kernel_rfl) (by as_aux_lemma => kernel_rfl) (by as_aux_lemma => kernel_rfl) (by as_aux_lemma => kernel_rfl) (by as_aux_lemma => kernel_rfl) (by as_aux_lemma => kernel_rfl) (by as_aux_lemma => kernel_rfl) (by as_aux_lemma => kernel_rfl) (by as_aux_lemma => kernel_rfl) (by as_aux_lemma => kernel_rfl) (by as_aux_lemma => kernel_rfl) (by as_aux_lemma => kernel_rfl) (by as_aux_lemma => kernel_rfl) (by as_aux_lemma => kernel_rfl) (by as_aux_lemma => kernel_rfl) (by as_aux_lemma => kernel_rfl) (by as_aux_lemma => kernel_rfl) (by as_aux_lemma => kernel_rfl) (by as_aux_lemma => kernel_rfl) Facts.heard Facts.enter Facts.lifts (by as_aux_lemma => kernel_rfl) (by as_aux_lemma => kernel_rfl) (by as_aux_lemma => kernel_rfl) (by as_aux_lemma => kernel_rfl) (by as_aux_lemma => kernel_rfl)
theorem over : Rows.tabShapesRow.holds Try.pinned (OpenSpec.ofChange Rows.tabShapesSpec) :=
  OpenClaim.holds_of_wide 19 Try.f19 rfl rfl rfl rfl rfl rfl rfl ⟨rfl, rfl, rfl, rfl, rfl⟩ rfl rfl rfl rfl rfl (by kernel_rfl) Try.func19 closed
    (of_decide_eq_true (by kernel_rfl)) (by unfold Func.isWrapper; first | (rw [if_pos (by decide +kernel)]; kernel_rfl) | (rw [if_neg (by decide +kernel)]; exact ⟨rfl, rfl⟩))
    (fun os started H enc _ => lifted os started H enc)
theorem proved : Rows.TabShapesSaid := over
#print axioms proved
end Go.Proofs.Ytmjfmfelbmbniaa.tabShapes
namespace Go.Proofs.Ytmjfmfelbmbniaa
theorem tabShapes_holds : Rows.TabShapesSaid := tabShapes.proved
end Go.Proofs.Ytmjfmfelbmbniaa
