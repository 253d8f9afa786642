/- The row of the law TabMetas: for every input the call returns true, and what came in reads as it did. -/
import Derived.Test.YtmjfmfelbmbniaaRows
import Derived.Test.YtmjfmfelbmbniaaArgs5
import Derived.Test.YtmjfmfelbmbniaaArgs6
import Derived.Test.YtmjfmfelbmbniaaTbD
import Derived.Test.YtmjfmfelbmbniaaRow
import Derived.Test.YtmjfmfelbmbniaaJF
import Derived.Test.YtmjfmfelbmbniaaFacts
namespace Go.Proofs.Ytmjfmfelbmbniaa.tabMetas
open Go.ChangeShapes Go.WideShapes Go.ChangeAt Go.RowKit
open Go.ChangeMaps (open_string shut_string)
open Go.Joins Go.Deep
set_option linter.unusedVariables false
theorem own : ownKnob Try.prog.godebug = none := by kernel_rfl
theorem laid : laidOutB Try.prog = true := by kernel_rfl
theorem kinds : (Try.f20.params.toList.all fun t => decide (t < Try.prog.types.size) && Try.prog.readableRec t) = true := by kernel_rfl
theorem kinds_ : ∀ t ∈ Try.f20.params.toList, t < Try.prog.types.size ∧ Try.prog.readableRec t = true := by
  intro t ht; have := List.all_eq_true.1 kinds t ht; simpa using this
set_option maxRecDepth 100000 in
theorem lifted (os : Os) (started : os.Started) (H : Type) (enc : TypeId × Value → H) :
    ReturnsInHanded {} Try.checked os 20 .any (Rows.tabMetasSpec.pre6 enc Try.prog Try.f20 Rows.tabMetasRow.domain false) (Rows.tabMetasSpec.post enc Try.prog Try.f20 false true false false) := by
  refine returnsInHanded_of_change_sized (C := Try.checked) own started (by kernel_rfl) Try.func20
    (ChangeSpec.witness6 (enc := enc) (C := Try.checked) false ⟨#[], #[.slice none 0 0, .slice none 0 0], []⟩ 8 (by kernel_rfl) (by kernel_rfl) (by kernel_rfl) (by kernel_rfl)) ?_
  intro W base args ds gs before hval0 hW hcnd hsz0 _
  have hsz : (DataW.weightsEach Try.prog (Try.f20.params.toList ++ Rows.tabMetasSpec.plain.varTypes Try.prog) (ds ++ gs)).all (· ≤ reachBytes) = true := hsz0
  have hval : ∀ (j : Nat) t v, Try.f20.params[j]? = some t → args[j]? = some v → Value.okWide Try.prog W .any base t v := hval0
  have hW' := hW
  obtain ⟨p, q, hA0, hV, rfl, hfz, hnd⟩ := hW
  have hA : DataW.TrodAll enc Try.prog W 0 (fun _ => true) true Try.f20.params.toList args.toList ds p := hA0
  rw [Try.params20] at hA hval hsz
  obtain ⟨v0, vs0, d0, ds0, p0, q0, hargs, rfl, rfl, h0, r0⟩ := trodAll_cons hA
  obtain ⟨v1, vs1, d1, ds1, p1, q1, rfl, rfl, rfl, h1, r1⟩ := trodAll_cons r0
  obtain ⟨rfl, rfl, rfl⟩ := trodAll_nil r1
  obtain rfl : args = #[v0, v1] := by cases args; simp_all
  obtain ⟨rfl, rfl⟩ := trodVars_none hV
  obtain ⟨fu0, hf0⟩ := h0
  obtain ⟨x0, hx0⟩ := rOpsT.opn hf0 (Opn.Sz.of_all hsz (j := 0) rfl rfl)
  obtain ⟨sa0, sl0, sc0, rfl⟩ := okWide_slice Try.underlying124 (hval 0 124 v0 rfl rfl)
  have hx0' : rOpsT.R W x0 [.slice sa0 sl0 sc0] := hx0
  have ot0 := use_opst hx0'
  obtain ⟨fu1, hf1⟩ := h1
  obtain ⟨x1, hx1⟩ := rBools.opn hf1 (Opn.Sz.of_all hsz (j := 1) rfl rfl)
  obtain ⟨sa1, sl1, sc1, rfl⟩ := okWide_slice Try.underlying144 (hval 1 144 v1 rfl rfl)
  have hx1' : rBools.R W x1 [.slice sa1 sl1 sc1] := hx1
  have ob1 := use_bools hx1'
  refine (tmetas_walk _ _ _ _ W ot0 ob1).mono fun e W' ⟨he, bel⟩ => ?_
  subst he
  exact ⟨_, rfl, RowLaws.post_true laid kinds_ rfl rfl Try.underlying4 hW' rfl bel⟩
set_option maxHeartbeats 2000000 in
theorem closed : joinedFacts Try.checked.prog 20 Try.f20 Rows.tabMetasSpec Rows.tabMetasRow = true :=
  JoinedFacts.of_parts (by as_aux_lemma => kernel_rfl) (by as_aux_lemma => kernel_rfl) (by as_aux_lemma => kernel_rfl) (by as_aux_lemma => kernel_rfl) (by as_aux_lemma => kernel_rfl) (by as_aux_lemma => kernel_rfl) (by as_aux_lemma => kernel_rfl) (by as_aux_lemma => kernel_rfl) (by as_aux_lemma => kernel_rfl) (by as_aux_lemma => kernel_rfl) (by as_aux_lemma => kernel_rfl) (by as_aux_lemma => kernel_rfl) (by as_aux_lemma => kernel_rfl) (by as_aux_lemma => kernel_rfl) (by as_aux_lemma => kernel_rfl) (by as_aux_lemma => kernel_rfl) (by as_aux_lemma => kernel_rfl) (by as_aux_lemma => kernel_rfl) (by as_aux_lemma => kernel_rfl) (by as_aux_lemma => kernel_rfl) (by as_aux_lemma => kernel_rfl) (by as_aux_lemma => kernel_rfl) (by as_aux_lemma => kernel_rfl) (by as_aux_lemma => kernel_rfl) Facts.heard Facts.enter Facts.lifts (by as_aux_lemma => kernel_rfl) (by as_aux_lemma => kernel_rfl) (by as_aux_lemma => kernel_rfl) (by as_aux_lemma => kernel_rfl) (by as_aux_lemma => kernel_rfl)
theorem over : Rows.tabMetasRow.holds Try.pinned (OpenSpec.ofChange Rows.tabMetasSpec) :=
  OpenClaim.holds_of_wide 20 Try.f20 rfl rfl rfl rfl rfl rfl rfl ⟨rfl, rfl, rfl, rfl, rfl⟩ rfl rfl rfl rfl rfl (by kernel_rfl) Try.func20 closed
    (of_decide_eq_true (by kernel_rfl)) (by unfold Func.isWrapper; first | (rw [if_pos (by decide +kernel)]; kernel_rfl) | (rw [if_neg (by decide +kernel)]; exact ⟨rfl, rfl⟩))
    (fun os started H enc _ => lifted os started H enc)
theorem proved : Rows.TabMetasSaid := over
#print axioms proved
end Go.Proofs.Ytmjfmfelbmbniaa.tabMetas
namespace Go.Proofs.Ytmjfmfelbmbniaa
theorem tabMetas_holds : Rows.TabMetasSaid := tabMetas.proved
end Go.Proofs.Ytmjfmfelbmbniaa
