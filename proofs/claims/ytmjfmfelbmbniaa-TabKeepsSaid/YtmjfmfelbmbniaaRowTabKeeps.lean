/- The row of the law TabKeeps: for every input the call returns true, and what came in reads as it did. -/
import Derived.Test.YtmjfmfelbmbniaaRows
import Derived.Test.YtmjfmfelbmbniaaArgs5
import Derived.Test.YtmjfmfelbmbniaaArgs7
import Derived.Test.YtmjfmfelbmbniaaTbI
import Derived.Test.YtmjfmfelbmbniaaRow
import Derived.Test.YtmjfmfelbmbniaaJF
import Derived.Test.YtmjfmfelbmbniaaFacts
namespace Go.Proofs.Ytmjfmfelbmbniaa.tabKeeps
open Go.ChangeShapes Go.WideShapes Go.ChangeAt Go.RowKit
open Go.ChangeMaps (open_string shut_string)
open Go.Joins Go.Deep
set_option linter.unusedVariables false
theorem own : ownKnob Try.prog.godebug = none := by kernel_rfl
theorem laid : laidOutB Try.prog = true := by kernel_rfl
theorem kinds : (Try.f17.params.toList.all fun t => decide (t < Try.prog.types.size) && Try.prog.readableRec t) = true := by kernel_rfl
theorem kinds_ : ∀ t ∈ Try.f17.params.toList, t < Try.prog.types.size ∧ Try.prog.readableRec t = true := by
  intro t ht; have := List.all_eq_true.1 kinds t ht; simpa using this
set_option maxRecDepth 100000 in
theorem lifted (os : Os) (started : os.Started) (H : Type) (enc : TypeId × Value → H) :
    ReturnsInHanded {} Try.checked os 17 .any (Rows.tabKeepsSpec.pre6 enc Try.prog Try.f17 Rows.tabKeepsRow.domain false) (Rows.tabKeepsSpec.post enc Try.prog Try.f17 false true false false) := by
  refine returnsInHanded_of_change_sized (C := Try.checked) own started (by kernel_rfl) Try.func17
    (ChangeSpec.witness6 (enc := enc) (C := Try.checked) false ⟨#[], #[.agg #[.int .i64 0, .int .i64 0, .slice none 0 0, .int .i64 0, .int .i64 0, .string ByteArray.empty]], []⟩ 8 (by kernel_rfl) (by kernel_rfl) (by kernel_rfl) (by kernel_rfl)) ?_
  intro W base args ds gs before hval0 hW hcnd hsz0 _
  have hsz : (DataW.weightsEach Try.prog (Try.f17.params.toList ++ Rows.tabKeepsSpec.plain.varTypes Try.prog) (ds ++ gs)).all (· ≤ reachBytes) = true := hsz0
  have hval : ∀ (j : Nat) t v, Try.f17.params[j]? = some t → args[j]? = some v → Value.okWide Try.prog W .any base t v := hval0
  have hW' := hW
  obtain ⟨p, q, hA0, hV, rfl, hfz, hnd⟩ := hW
  have hA : DataW.TrodAll enc Try.prog W 0 (fun _ => true) true Try.f17.params.toList args.toList ds p := hA0
  rw [Try.params17] at hA hval hsz
  obtain ⟨v0, vs0, d0, ds0, p0, q0, hargs, rfl, rfl, h0, r0⟩ := trodAll_cons hA
  obtain ⟨rfl, rfl, rfl⟩ := trodAll_nil r0
  obtain rfl : args = #[v0] := by cases args; simp_all
  obtain ⟨rfl, rfl⟩ := trodVars_none hV
  obtain ⟨fu0, hf0⟩ := h0
  obtain ⟨x0, hx0⟩ := rKeeps.opn hf0 (Opn.Sz.of_all hsz (j := 0) rfl rfl)
  obtain ⟨kv0, rfl, kl0, kn0, ks0⟩ := use_keeps (hval 0 133 v0 rfl rfl) hx0
  refine (tkeeps_walk _ _ _ _ (toVal x0.2.2.2.1) W kl0 kn0 ks0).mono fun e W' ⟨he, bel⟩ => ?_
  subst he
  exact ⟨_, rfl, RowLaws.post_true laid kinds_ rfl rfl Try.underlying4 hW' rfl bel⟩
set_option maxHeartbeats 2000000 in
theorem closed : joinedFacts Try.checked.prog 17 Try.f17 Rows.tabKeepsSpec Rows.tabKeepsRow = true :=
  JoinedFacts.of_parts (by as_aux_lemma => kernel_rfl) (by as_aux_lemma => kernel_rfl) (by as_aux_lemma => kernel_rfl) (by as_aux_lemma => kernel_rfl) (by as_aux_lemma => kernel_rfl) (by as_aux_lemma => kernel_rfl) (by as_aux_lemma => kernel_rfl) (by as_aux_lemma => kernel_rfl) (by as_aux_lemma => kernel_rfl) (by as_aux_lemma => kernel_rfl) (by as_aux_lemma => kernel_rfl) (by as_aux_lemma => kernel_rfl) (by as_aux_lemma => kernel_rfl) (by as_aux_lemma => kernel_rfl) (by as_aux_lemma => kernel_rfl) (by as_aux_lemma => kernel_rfl) (by as_aux_lemma => kernel_rfl) (by as_aux_lemma => kernel_rfl) (by as_aux_lemma => kernel_rfl) (by as_aux_lemma => kernel_rfl) (by as_aux_lemma => kernel_rfl) (by as_aux_lemma => kernel_rfl) (by as_aux_lemma => kernel_rfl) (by as_aux_lemma => kernel_rfl) Facts.heard Facts.enter Facts.lifts (by as_aux_lemma => kernel_rfl) (by as_aux_lemma => kernel_rfl) (by as_aux_lemma => kernel_rfl) (by as_aux_lemma => kernel_rfl) (by as_aux_lemma => kernel_rfl)
theorem over : Rows.tabKeepsRow.holds Try.pinned (OpenSpec.ofChange Rows.tabKeepsSpec) :=
  OpenClaim.holds_of_wide 17 Try.f17 rfl rfl rfl rfl rfl rfl rfl ⟨rfl, rfl, rfl, rfl, rfl⟩ rfl rfl rfl rfl rfl (by kernel_rfl) Try.func17 closed
    (of_decide_eq_true (by kernel_rfl)) (by unfold Func.isWrapper; first | (rw [if_pos (by decide +kernel)]; kernel_rfl) | (rw [if_neg (by decide +kernel)]; exact ⟨rfl, rfl⟩))
    (fun os started H enc _ => lifted os started H enc)
theorem proved : Rows.TabKeepsSaid := over
#print axioms proved
end Go.Proofs.Ytmjfmfelbmbniaa.tabKeeps
namespace Go.Proofs.Ytmjfmfelbmbniaa
theorem tabKeeps_holds : Rows.TabKeepsSaid := tabKeeps.proved
end Go.Proofs.Ytmjfmfelbmbniaa
