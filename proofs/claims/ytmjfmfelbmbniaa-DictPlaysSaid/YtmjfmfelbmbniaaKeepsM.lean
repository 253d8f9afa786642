/- Layer 13: what was set last is there. Plain lemmas. -/
import Derived.Test.YtmjfmfelbmbniaaDiK
namespace Go.Proofs.Ytmjfmfelbmbniaa
open Go.RowKit Go.Maps HK ShM
set_option linter.unusedVariables false
set_option linter.unusedSimpArgs false
theorem getA_set (L : Pairs) (k v k' : Val) : getA (setA L k v) k' = if k = k' then (getA L k).map (fun _ => v) else getA L k' := by
  unfold getA setA
  induction L with
  | nil => by_cases h : k = k' <;> simp [h]
  | cons x r ih =>
    rw [List.map_cons, List.find?_cons]
    by_cases h1 : x.1 = k
    · rw [if_pos h1]
      by_cases h2 : k = k'
      · subst h2
        simp [h1]
      · rw [if_neg h2] at ih ⊢
        have h3 : ¬ x.1 = k' := fun e => h2 (h1.symm.trans e)
        rw [List.find?_cons]
        simp only [h2, h3, decide_false]
        exact ih
    · rw [if_neg h1]
      by_cases h4 : x.1 = k'
      · have h2 : ¬ k = k' := fun e => h1 (h4.trans e.symm)
        rw [if_neg h2, List.find?_cons]
        simp [h4]
      · rw [List.find?_cons]
        simp only [h4, decide_false]
        rw [ih]
        by_cases h2 : k = k'
        · rw [if_pos h2, if_pos h2]
          simp only [h1, decide_false]
        · rw [if_neg h2, if_neg h2, List.find?_cons]
          simp only [h4, decide_false]
theorem getA_snoc (L : Pairs) (k v k' : Val) (h : getA L k = none) : getA (L ++ [(k, v)]) k' = if k = k' then some v else getA L k' := by
  unfold getA at h ⊢
  rw [List.find?_append]
  have h' : L.find? (fun x => decide (x.1 = k)) = none := by simpa using h
  by_cases h2 : k = k'
  · subst h2
    rw [if_pos rfl, h']
    simp
  · rw [if_neg h2]
    simp [h2]
theorem own_zero {x : Val} (h : x.own.k = 0) : x.own = Val.nil := by
  obtain ⟨k, n, s⟩ := x
  unfold Val.own at h ⊢
  dsimp only at h ⊢
  split
  · rename_i h1; rw [if_pos h1] at h; cases h
  · rename_i h1
    rw [if_neg h1] at h
    split
    · rename_i h2; rw [if_pos h2] at h; cases h
    · rename_i h2
      rw [if_neg h2] at h
      split
      · rename_i h3; rw [if_pos h3] at h; dsimp only at h; omega
      · rfl
theorem getA_setL {L : Pairs} {x v k : Val} (hb : x.bad = false) : (getA (setL L x v) k).getD Val.nil = if keyV x = k then v.own else (getA L k).getD Val.nil := by
  unfold setL
  rw [hb, if_neg (by decide)]
  cases h : getA L (keyV x) with
  | some u =>
    dsimp only
    rw [getA_set, h]
    by_cases h2 : keyV x = k
    · rw [if_pos h2, if_pos h2]; rfl
    · rw [if_neg h2, if_neg h2]
  | none =>
    dsimp only
    by_cases h0 : v.own.k = 0
    · rw [if_pos h0]
      by_cases h2 : keyV x = k
      · rw [if_pos h2, ← h2, h, own_zero h0]; rfl
      · rw [if_neg h2]
    · rw [if_neg h0, getA_snoc _ _ _ _ h]
      by_cases h2 : keyV x = k
      · rw [if_pos h2, if_pos h2]; rfl
      · rw [if_neg h2, if_neg h2]
theorem keyV_own {x : Val} (hb : x.bad = false) : keyV x = x.own := by unfold keyV; rw [hb]; rfl
theorem own_k {x : Val} (hb : x.bad = false) : x.own.k = x.k := by
  obtain ⟨k, n, s⟩ := x
  simp only [Val.bad, Val.strange, Bool.or_eq_false_iff, decide_eq_false_iff_not] at hb
  obtain ⟨h0, h1, h2⟩ := hb
  have h7 : k = 1 ∨ k = 2 ∨ k = 3 ∨ k = 4 ∨ k = 5 ∨ k = 6 ∨ k = 7 := by omega
  rcases h7 with rfl | rfl | rfl | rfl | rfl | rfl | rfl <;> simp [Val.own]
theorem bad_own {x : Val} (hb : x.bad = true) : x.own = Val.nil := by
  obtain ⟨k, n, s⟩ := x
  simp only [Val.bad, Val.strange, Bool.or_eq_true, decide_eq_true_eq] at hb
  unfold Val.own
  dsimp only
  rw [if_neg (by omega), if_neg (by omega), if_neg (by omega)]
/-- What Raw says of a key that is none too bad: it is one key with the other one. -/
theorem raw_key {x y : Val} (hx : x.bad = false) : rawV x y = (!y.bad && decide (keyV x = keyV y)) := by
  have hs : x.strange = false := by
    unfold Val.bad at hx
    cases h : x.strange with
    | false => rfl
    | true => rw [h] at hx; simp at hx
  unfold rawV
  rw [hs]
  cases hy : y.bad with
  | true =>
    have h1 : ¬ (x.own = y.own) := fun e => by
      rw [bad_own hy] at e
      have h2 := own_k hx
      rw [e] at h2
      unfold Val.bad at hx
      rw [← h2] at hx
      simp at hx
    simp [h1]
  | false =>
    rw [keyV_own hx, keyV_own hy]
    by_cases h : x.own = y.own
    · have h2 : x.k = y.k := by rw [← own_k hx, ← own_k hy, h]
      simp [h, h2]
    · simp [h]
theorem keep_step {L : Pairs} {x v y w : Val} (hx : x.bad = false) (h : getV L y = w) : getV (setL L x v) y = if rawV x y then v.own else w := by
  rw [raw_key hx]
  unfold getV at h ⊢
  cases hy : y.bad with
  | true => rw [hy] at h; simpa using h
  | false =>
    rw [hy, if_neg (by decide)] at h
    rw [if_neg (by decide), getA_setL hx, h]
    by_cases h2 : keyV x = keyV y <;> simp [h2]
theorem keep_bad {L : Pairs} {x v : Val} (hx : x.bad = true) : setL L x v = L := by unfold setL; rw [hx]; rfl
theorem Dct.store {Z : Nat → Prop} {w0 w : World} {d N : Nat} {L : Pairs} {B B' : List (Nat × Val)} (h : Dct Z w0 w d L N B) {b : Nat} {v : Val} (hp : (b, v) ∈ B) (v' : Val) (h0 : w0.heap.size ≤ b) (hB : ∀ p ∈ B', p = (b, v') ∨ p ∈ B ∧ p.1 ≠ b) :
    Dct Z w0 (((w.setCell ⟨b, 0, none⟩ (.int .i64 v'.k)).setCell ⟨b, 1, none⟩ (.int .i64 v'.n)).setCell ⟨b, 2, none⟩ (.string v'.s)) d L N B' := by
  have h1 : Chg (fun c => c = b) w (w.setCell ⟨b, 0, none⟩ (.int .i64 v'.k)) := (Chg.refl (fun c => c = b) w).setCell (a := ⟨b, 0, none⟩) (fun _ => rfl) _
  have h2 : Chg (fun c => c = b) w ((w.setCell ⟨b, 0, none⟩ (.int .i64 v'.k)).setCell ⟨b, 1, none⟩ (.int .i64 v'.n)) := h1.setCell (a := ⟨b, 1, none⟩) (fun _ => rfl) _
  have h3 : Chg (fun c => c = b) w (((w.setCell ⟨b, 0, none⟩ (.int .i64 v'.k)).setCell ⟨b, 1, none⟩ (.int .i64 v'.n)).setCell ⟨b, 2, none⟩ (.string v'.s)) := h2.setCell (a := ⟨b, 2, none⟩) (fun _ => rfl) _
  exact h.rebox hp h3 ((((h.box hp).setSame 0 _).setSame 1 _).setSame 2 _) h0 hB
theorem own_size {x : Val} (hx : x.s.size ≤ maxLen) : x.own.s.size ≤ maxLen := by
  unfold Val.own
  repeat' split
  all_goals first | exact hx | exact Nat.zero_le _
theorem toList_some (s : ByteArray) (h : s.data.toList.isEmpty = false) : s.toList.isEmpty = false := by rw [ByteArray.toList_eq]; exact h
theorem toList_none (s : ByteArray) (h : s.data.toList.isEmpty = true) : s.toList.isEmpty = true := by rw [ByteArray.toList_eq]; exact h
theorem getV_own (L : Pairs) (y : Val) : getV L y.own = getV L y := by
  unfold getV
  cases hy : y.bad with
  | true => rw [bad_own hy]; rfl
  | false =>
    have h1 := own_key y hy
    rw [h1.2]
    have h2 := keyV_key y hy
    rw [← keyV_own hy, h2.1]
end Go.Proofs.Ytmjfmfelbmbniaa
