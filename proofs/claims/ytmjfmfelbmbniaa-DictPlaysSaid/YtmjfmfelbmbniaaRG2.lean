/- A region that draws its order and whose last operation, that waits for all others, writes: the condition on the world need not stand behind it. Plain lemmas over any program. -/
import Derived.Test.YtmjfmfelbmbniaaRG
namespace Go.Proofs.Ytmjfmfelbmbniaa.RG
set_option linter.unusedVariables false
set_option linter.unusedSimpArgs false
/-- Whatever order is picked; S stands behind every operation but L; L is the last. -/
def wpAnyF (P : Program) (md : Region.Mode) (ops : Array Oper) (Q : Exit → Act → World → Prop) (S : World → Prop) (L : Nat) : Nat → Array Bool → Act → World → Prop
  | 0, listed, a, w => Region.ready md ops listed = [] ∧ Q .normal a w
  | fuel + 1, listed, a, w =>
    (Region.ready md ops listed = [] → Q .normal a w) ∧
    ∀ i ∈ Region.ready md ops listed, wpOp P ops Q i (fun a' w' => if i = L then Region.ready md ops (listed.setIfInBounds i true) = [] ∧ Q .normal a' w' else S w' ∧ wpAnyF P md ops Q S L fuel (listed.setIfInBounds i true) a' w') a w
/-- L waits for i. -/
def waits (md : Region.Mode) (ops : Array Oper) (L i : Nat) : Bool := match ops[L]? with
  | some o => o.after.any fun e => Region.binds md e && e.on == i
  | none => false
section
variable {P : Program} {ops : Array Oper} {Q : Exit → Act → World → Prop} {md : Region.Mode} {S : World → Prop} {L : Nat}
theorem wpAny_of_F : ∀ (fuel : Nat) (listed : Array Bool) (a : Act) (w : World), wpAnyF P md ops Q S L fuel listed a w → wpAny P md ops Q fuel listed a w
  | 0, _, _, _, h => h
  | fuel + 1, listed, _, _, h => ⟨h.1, fun i hi => wpOp_mono (fun a' w' h' => by
      by_cases e : i = L
      · rw [if_pos e] at h'
        cases fuel with
        | zero => exact h'
        | succ n => exact ⟨fun _ => h'.2, fun k hk => by rw [h'.1] at hk; cases hk⟩
      · rw [if_neg e] at h'
        exact wpAny_of_F fuel _ a' w' h'.2) (h.2 i hi)⟩
theorem not_ready {listed : Array Bool} {i : Nat} (hw : waits md ops L i = true) (hi : listed.getD i true = false) : L ∉ Region.ready md ops listed := by
  intro h
  obtain ⟨_, o, ho, hall⟩ := mem_ready.1 h
  unfold waits at hw
  rw [ho] at hw
  obtain ⟨e, he, h5⟩ := Array.any_eq_true'.1 hw
  simp only [Bool.and_eq_true, beq_iff_eq] at h5
  have h1 := hall e he h5.1
  rw [h5.2] at h1
  rcases Nat.lt_or_ge i listed.size with h' | h'
  · simp [Array.getD, h'] at hi h1; rw [hi] at h1; cases h1
  · simp [Array.getD, Nat.not_lt.2 h'] at hi
theorem wpAnyF_first {i : Nat} {oi : Oper} {v : Value} (hi : ops[i]? = some oi) (hsel : ∀ (j : Nat) (o : Oper) cs b, ops[j]? = some o → o.op ≠ .select cs b) (hiL : i ≠ L) (hw : waits md ops L i = true)
    (hQ : ∀ c a w, Q (.panic c) (a.put oi.dst v) w → Q (.panic c) a w) :
    ∀ (fuel : Nat) (listed : Array Bool) (a : Act) (w : World),
      (∀ j oj, ops[j]? = some oj → j ≠ i → listed.getD j true = false → (∀ e ∈ oj.after, Region.binds md e = true → e.on ≠ i) → oi.apart ops oj = true) →
      i ∈ Region.ready md ops listed → YieldsIf P ops S oi v a → S w →
      wpAnyF P md ops Q S L fuel (listed.setIfInBounds i true) (a.put oi.dst v) w → wpAnyF P md ops Q S L (fuel + 1) listed a w := by
  intro fuel
  induction fuel with
  | zero =>
    intro listed a w _ hr hy hS H
    refine ⟨fun h => (by rw [h] at hr; cases hr), fun j hj => ?_⟩
    by_cases hji : j = i
    · subst hji; exact hy.wpOp hi hS (by rw [if_neg hiL]; exact ⟨hS, H⟩)
    · have := ready_mono hj hji
      rw [H.1] at this
      cases this
  | succ fuel ih =>
    intro listed a w hfree hr hy hS H
    refine ⟨fun h => (by rw [h] at hr; cases hr), fun j hj => ?_⟩
    by_cases hji : j = i
    · subst hji; exact hy.wpOp hi hS (by rw [if_neg hiL]; exact ⟨hS, H⟩)
    · have hjL : j ≠ L := by
        rintro rfl
        exact not_ready hw (mem_ready.1 hr).1 hj
      have h1 := H.2 j (ready_mono hj hji)
      simp only [if_neg hjL]
      simp only [if_neg hjL] at h1
      obtain ⟨hjun, oj, hoj, hall⟩ := mem_ready.1 hj
      have hnot : ∀ e ∈ oj.after, Region.binds md e = true → e.on ≠ i := fun e he hb heq => by
        have h1 := hall e he hb
        have h0 := (mem_ready.1 hr).1
        rw [heq] at h1
        rcases Nat.lt_or_ge i listed.size with h' | h'
        · simp [h'] at h0 h1; rw [h0] at h1; cases h1
        · simp [Array.getElem?_eq_none h'] at h1
      have h2 := wpOp_putIf hoj (hfree j oj hoj hji hjun hnot) (fun cs b => hsel i oi cs b hi) (fun cs b => hsel j oj cs b hoj) hQ hy h1
      have hfree' : ∀ k ok, ops[k]? = some ok → k ≠ i → (listed.setIfInBounds j true).getD k true = false →
          (∀ e ∈ ok.after, Region.binds md e = true → e.on ≠ i) → oi.apart ops ok = true := fun k ok hk hki hun hno => by
        refine hfree k ok hk hki ?_ hno
        by_cases hjk : j = k
        · subst hjk; exact hjun
        · rw [getD_set_ne true hjk] at hun; exact hun
      refine wpOp_mono (fun a' w' h3 => ⟨h3.2.1, ih (listed.setIfInBounds j true) a' w' hfree' (ready_mono hr (Ne.symm hji)) h3.1 h3.2.1 ?_⟩) h2
      rw [Array.setIfInBounds_comm _ _ hji]
      exact h3.2.2
theorem takeF (i : Nat) {oi : Oper} {v : Value} {fuel : Nat} {listed : Array Bool} {a : Act} {w : World} (hi : ops[i]? = some oi)
    (hs : Region.noSelect ops = true) (hf : Region.free md ops listed i = true) (hr : (Region.ready md ops listed).contains i = true) (hL : (i != L && waits md ops L i) = true)
    (hQ : ∀ c a w, Q (.panic c) (a.put oi.dst v) w → Q (.panic c) a w) (hy : YieldsIf P ops S oi v a) (hS : S w)
    (h : wpAnyF P md ops Q S L fuel (listed.setIfInBounds i true) (a.put oi.dst v) w) : wpAnyF P md ops Q S L (fuel + 1) listed a w := by
  simp only [Bool.and_eq_true, bne_iff_ne, ne_eq] at hL
  exact wpAnyF_first hi (Region.noSelect_spec hs) hL.1 hL.2 hQ fuel listed a w (Region.free_spec hi hf) (by simpa using hr) hy hS h
theorem oneF (i : Nat) {fuel : Nat} {listed : Array Bool} {a : Act} {w : World} (hr : Region.ready md ops listed = [i]) (hi : i ≠ L)
    (h : wpOp P ops Q i (fun a' w' => S w' ∧ wpAnyF P md ops Q S L fuel (listed.setIfInBounds i true) a' w') a w) : wpAnyF P md ops Q S L (fuel + 1) listed a w :=
  ⟨fun h0 => (by rw [h0] at hr; cases hr), fun j hj => by rw [hr] at hj; simp at hj; subst hj; simp only [if_neg hi]; exact h⟩
theorem twoF (i j : Nat) {fuel : Nat} {listed : Array Bool} {a : Act} {w : World} (hr : Region.ready md ops listed = [i, j]) (hi : i ≠ L) (hj : j ≠ L)
    (h : wpOp P ops Q i (fun a' w' => S w' ∧ wpAnyF P md ops Q S L fuel (listed.setIfInBounds i true) a' w') a w)
    (k : wpOp P ops Q j (fun a' w' => S w' ∧ wpAnyF P md ops Q S L fuel (listed.setIfInBounds j true) a' w') a w) : wpAnyF P md ops Q S L (fuel + 1) listed a w :=
  ⟨fun h0 => (by rw [h0] at hr; cases hr), fun x hx => by
    rw [hr] at hx
    simp only [List.mem_cons, List.not_mem_nil, or_false] at hx
    rcases hx with rfl | rfl
    · simp only [if_neg hi]; exact h
    · simp only [if_neg hj]; exact k⟩
theorem lastF {fuel : Nat} {listed : Array Bool} {a : Act} {w : World} (hr : Region.ready md ops listed = [L]) (hz : Region.ready md ops (listed.setIfInBounds L true) = [])
    (h : wpOp P ops Q L (fun a' w' => Q .normal a' w') a w) : wpAnyF P md ops Q S L (fuel + 1) listed a w :=
  ⟨fun h0 => (by rw [h0] at hr; cases hr), fun j hj => by rw [hr] at hj; simp at hj; subst hj; simp only [if_true]; exact wpOp_mono (fun _ _ hQ => ⟨hz, hQ⟩) h⟩
theorem region_F {id : Nat} {a : Act} {w : World} (S : World → Prop) (L : Nat) (hm : P.follows .mixedOrders = true)
    (h : wpAnyF P .any ops Q S L ops.size (Array.replicate ops.size false) a { w with drawn := w.drawn + 1 }) : (Code.region id ops true).wp P Q a w :=
  wp_region_any hm (wpAny_of_F _ _ _ _ h)
end
end Go.Proofs.Ytmjfmfelbmbniaa.RG
