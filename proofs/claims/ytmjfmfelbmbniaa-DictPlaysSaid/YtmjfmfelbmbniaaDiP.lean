/- Layer 13: pairs, and what an entry written anew makes of them. Plain lemmas. -/
import Derived.Test.YtmjfmfelbmbniaaDiG
namespace Go.Proofs.Ytmjfmfelbmbniaa
open Go.RowKit Go.Maps HK ShM
set_option linter.unusedVariables false
set_option linter.unusedSimpArgs false
def dropA (L : Pairs) (k : Val) : Pairs := L.filter (fun x => decide (x.1 ≠ k))
def setA (L : Pairs) (k v : Val) : Pairs := L.map (fun x => if x.1 = k then (k, v) else x)
theorem uniq_tail {x : Ent} {r : List Ent} (h : Uniq (x :: r)) : Uniq r := fun a b k v w h1 h2 => by
  have := h (a + 1) (b + 1) k v w (by simpa using h1) (by simpa using h2); omega
theorem uniq_head {k v : Val} {r : List Ent} (h : Uniq (some (k, v) :: r)) : ∀ i w, r.getD i none ≠ some (k, w) := fun i w h2 => by
  have := h 0 (i + 1) k v w (by simp) (by simpa using h2); omega
theorem getD_set_ent {es : List Ent} {i j : Nat} {x : Ent} (hi : i < es.length) : (es.set i x).getD j none = if j = i then x else es.getD j none := by
  simp only [List.getD_eq_getElem?_getD]
  rw [List.getElem?_set]
  by_cases e : i = j
  · subst e; simp [hi]
  · simp [e, Ne.symm e]
theorem uniq_set {es : List Ent} {i : Nat} {x : Ent} (h : Uniq es) (hi : i < es.length) (hx : ∀ k v, x = some (k, v) → ∃ w, es.getD i none = some (k, w)) : Uniq (es.set i x) := fun a b k v w h1 h2 => by
  rw [getD_set_ent hi] at h1 h2
  by_cases ea : a = i
  · by_cases eb : b = i
    · omega
    · rw [if_pos ea] at h1; rw [if_neg eb] at h2
      obtain ⟨u, hu⟩ := hx k v h1
      have := h i b k u w hu h2; omega
  · by_cases eb : b = i
    · rw [if_neg ea] at h1; rw [if_pos eb] at h2
      obtain ⟨u, hu⟩ := hx k w h2
      have := h a i k v u h1 hu; omega
    · rw [if_neg ea] at h1; rw [if_neg eb] at h2
      exact h a b k v w h1 h2
theorem uniq_snoc {es : List Ent} {k v : Val} (h : Uniq es) (ha : ∀ i w, es.getD i none ≠ some (k, w)) : Uniq (es ++ [some (k, v)]) := fun a b k' v' w' h1 h2 => by
  rw [getD_snoc] at h1 h2
  by_cases ea : a = es.length
  · by_cases eb : b = es.length
    · omega
    · rw [if_pos ea] at h1; rw [if_neg eb] at h2
      cases h1
      exact absurd h2 (ha b w')
  · by_cases eb : b = es.length
    · rw [if_neg ea] at h1; rw [if_pos eb] at h2
      cases h2
      exact absurd h1 (ha a v')
    · rw [if_neg ea] at h1; rw [if_neg eb] at h2
      exact h a b k' v' w' h1 h2
theorem dropA_none {es : List Ent} {k : Val} (h : ∀ i w, es.getD i none ≠ some (k, w)) : dropA (absE es) k = absE es := by
  unfold dropA
  rw [List.filter_eq_self.2]
  intro x hx
  obtain ⟨i, hi⟩ := mem_absE.1 hx
  obtain ⟨a, b⟩ := x
  simp only [decide_eq_true_eq]
  rintro rfl
  exact h i b hi
theorem setA_none {es : List Ent} {k v : Val} (h : ∀ i w, es.getD i none ≠ some (k, w)) : setA (absE es) k v = absE es := by
  unfold setA
  rw [List.map_congr_left (g := id)]
  · simp
  · intro x hx
    obtain ⟨i, hi⟩ := mem_absE.1 hx
    obtain ⟨a, b⟩ := x
    rw [if_neg]
    · rfl
    · rintro rfl
      exact h i b hi
theorem absE_drop : ∀ {es : List Ent} {i : Nat} {k v : Val}, Uniq es → es.getD i none = some (k, v) → absE (es.set i none) = dropA (absE es) k
  | [], i, k, v, _, h => by simp at h
  | none :: r, 0, k, v, _, h => by simp at h
  | none :: r, i + 1, k, v, hu, h => by
    rw [List.set_cons_succ, absE_none, absE_none]
    exact absE_drop (uniq_tail hu) (by simpa using h)
  | some x :: r, 0, k, v, hu, h => by
    simp at h; subst h
    rw [List.set_cons_zero, absE_none, absE_some]
    have := dropA_none (uniq_head hu)
    unfold dropA at this ⊢
    rw [List.filter_cons_of_neg (by simp), this]
  | some x :: r, i + 1, k, v, hu, h => by
    obtain ⟨a, b⟩ := x
    have hx : a ≠ k := fun e => by subst e; exact uniq_head hu i v (by simpa using h)
    rw [List.set_cons_succ, absE_some, absE_some, absE_drop (uniq_tail hu) (by simpa using h)]
    unfold dropA
    rw [List.filter_cons_of_pos (by simpa using hx)]
theorem absE_set : ∀ {es : List Ent} {i : Nat} {k v v' : Val}, Uniq es → es.getD i none = some (k, v) → absE (es.set i (some (k, v'))) = setA (absE es) k v'
  | [], i, k, v, v', _, h => by simp at h
  | none :: r, 0, k, v, v', _, h => by simp at h
  | none :: r, i + 1, k, v, v', hu, h => by
    rw [List.set_cons_succ, absE_none, absE_none]
    exact absE_set (uniq_tail hu) (by simpa using h)
  | some x :: r, 0, k, v, v', hu, h => by
    simp at h; subst h
    rw [List.set_cons_zero, absE_some, absE_some]
    have := setA_none (v := v') (uniq_head hu)
    unfold setA at this ⊢
    rw [List.map_cons, this, if_pos rfl]
  | some x :: r, i + 1, k, v, v', hu, h => by
    obtain ⟨a, b⟩ := x
    have hx : a ≠ k := fun e => by subst e; exact uniq_head hu i v (by simpa using h)
    rw [List.set_cons_succ, absE_some, absE_some, absE_set (uniq_tail hu) (by simpa using h)]
    unfold setA
    rw [List.map_cons, if_neg hx]
theorem len_drop : ∀ {es : List Ent} {i : Nat} {x : Val × Val}, es.getD i none = some x → (absE (es.set i none)).length + 1 = (absE es).length
  | [], i, x, h => by simp at h
  | none :: r, 0, x, h => by simp at h
  | none :: r, i + 1, x, h => by rw [List.set_cons_succ, absE_none, absE_none]; exact len_drop (by simpa using h)
  | some y :: r, 0, x, h => by rw [List.set_cons_zero, absE_none, absE_some]; rfl
  | some y :: r, i + 1, x, h => by
    rw [List.set_cons_succ, absE_some, absE_some, List.length_cons, List.length_cons, len_drop (es := r) (i := i) (x := x) (by simpa using h)]
theorem len_set : ∀ {es : List Ent} {i : Nat} {x y : Val × Val}, es.getD i none = some x → (absE (es.set i (some y))).length = (absE es).length
  | [], i, x, y, h => by simp at h
  | none :: r, 0, x, y, h => by simp at h
  | none :: r, i + 1, x, y, h => by rw [List.set_cons_succ, absE_none, absE_none]; exact len_set (by simpa using h)
  | some z :: r, 0, x, y, h => by rw [List.set_cons_zero, absE_some, absE_some]; rfl
  | some z :: r, i + 1, x, y, h => by
    rw [List.set_cons_succ, absE_some, absE_some, List.length_cons, List.length_cons, len_set (es := r) (i := i) (x := x) (y := y) (by simpa using h)]
theorem liveL_cons (x : Val × Val) (L : Pairs) : (liveL (x :: L) : Int) = x.2.lives + liveL L := by
  unfold liveL Val.lives
  rw [List.countP_cons]
  by_cases h : x.2.k = 0 <;> simp [h]
  omega
theorem liveL_nn (L : Pairs) : (0 : Int) ≤ liveL L := by omega
theorem lives_01 (x : Val) : 0 ≤ x.lives ∧ x.lives ≤ 1 := by unfold Val.lives; split <;> omega
theorem live_drop : ∀ {es : List Ent} {i : Nat} {x : Val × Val}, es.getD i none = some x → (liveL (absE (es.set i none)) : Int) = liveL (absE es) - x.2.lives
  | [], i, x, h => by simp at h
  | none :: r, 0, x, h => by simp at h
  | none :: r, i + 1, x, h => by rw [List.set_cons_succ, absE_none, absE_none]; exact live_drop (by simpa using h)
  | some y :: r, 0, x, h => by
    simp at h; subst h
    rw [List.set_cons_zero, absE_none, absE_some, liveL_cons]; omega
  | some y :: r, i + 1, x, h => by
    rw [List.set_cons_succ, absE_some, absE_some, liveL_cons, liveL_cons, live_drop (es := r) (i := i) (x := x) (by simpa using h)]; omega
theorem live_set : ∀ {es : List Ent} {i : Nat} {x y : Val × Val}, es.getD i none = some x → (liveL (absE (es.set i (some y))) : Int) = liveL (absE es) + (y.2.lives - x.2.lives)
  | [], i, x, y, h => by simp at h
  | none :: r, 0, x, y, h => by simp at h
  | none :: r, i + 1, x, y, h => by rw [List.set_cons_succ, absE_none, absE_none]; exact live_set (by simpa using h)
  | some z :: r, 0, x, y, h => by
    simp at h; subst h
    rw [List.set_cons_zero, absE_some, absE_some, liveL_cons, liveL_cons]; omega
  | some z :: r, i + 1, x, y, h => by
    rw [List.set_cons_succ, absE_some, absE_some, liveL_cons, liveL_cons, live_set (es := r) (i := i) (x := x) (y := y) (by simpa using h)]; omega
theorem flat7_set : ∀ {css : List (List Value)} {i c : Nat} {x : List Value} (u : Value), (∀ y ∈ css, y.length = 7) → css[i]? = some x → c < 7 → css.flatten.set (i * 7 + c) u = (css.set i (x.set c u)).flatten
  | [], i, c, x, u, _, h, _ => by simp at h
  | y :: r, 0, c, x, u, h7, h, hc => by
    simp at h; subst h
    have hy := h7 y (by simp)
    rw [List.set_cons_zero, List.flatten_cons, List.flatten_cons, Nat.zero_mul, Nat.zero_add, List.set_append_left _ _ (by omega)]
  | y :: r, i + 1, c, x, u, h7, h, hc => by
    have hy := h7 y (by simp)
    rw [List.set_cons_succ, List.flatten_cons, List.flatten_cons, List.set_append_right _ _ (by omega), hy, show (i + 1) * 7 + c - 7 = i * 7 + c by omega, flat7_set u (fun z hz => h7 z (by simp [hz])) (by simpa using h) hc]
theorem flatE_flat (es : List Ent) : flatE es = (es.map Ent.cells).flatten := List.flatMap_def
theorem map7 (es : List Ent) : ∀ y ∈ es.map Ent.cells, y.length = 7 := fun y hy => by
  obtain ⟨x, _, rfl⟩ := List.mem_map.1 hy
  exact Ent.cells_len x
theorem set7 {css : List (List Value)} {i c : Nat} {x : List Value} (u : Value) (h7 : ∀ y ∈ css, y.length = 7) (hx : x.length = 7) (hi : i < css.length) (hc : c < 7) : (css.set i x).flatten.set (i * 7 + c) u = (css.set i (x.set c u)).flatten := by
  rw [flat7_set (x := x) u (fun y hy => (List.mem_or_eq_of_mem_set hy).elim (h7 y) (fun e => e ▸ hx)) (by rw [List.getElem?_set_self hi]) hc, List.set_set]
theorem flatE_drop {es : List Ent} {i : Nat} (hi : i < es.length) : (((((((flatE es).set (i * 7) (.int .i64 0)).set (i * 7 + 1) (.int .i64 0)).set (i * 7 + 2) (.string Val.e)).set (i * 7 + 3) (.int .i64 0)).set (i * 7 + 4) (.int .i64 0)).set (i * 7 + 5) (.string Val.e)).set (i * 7 + 6) (.bool false) = flatE (es.set i none) := by
  have hl : i < (es.map Ent.cells).length := by simpa using hi
  obtain ⟨a0, a1, a2, a3, a4, a5, a6, hx⟩ : ∃ a0 a1 a2 a3 a4 a5 a6, es[i].cells = [a0, a1, a2, a3, a4, a5, a6] := by
    rcases es[i] with _ | ⟨k, v⟩ <;> exact ⟨_, _, _, _, _, _, _, rfl⟩
  have hg : (es.map Ent.cells)[i]? = some [a0, a1, a2, a3, a4, a5, a6] := by rw [List.getElem?_map, List.getElem?_eq_getElem hi, Option.map_some, hx]
  have h0 := flat7_set (c := 0) (.int .i64 0) (map7 es) hg (by decide)
  rw [Nat.add_zero] at h0
  rw [flatE_flat, flatE_flat, h0]
  rw [set7 _ (map7 es) rfl hl (by decide), set7 _ (map7 es) rfl hl (by decide), set7 _ (map7 es) rfl hl (by decide), set7 _ (map7 es) rfl hl (by decide), set7 _ (map7 es) rfl hl (by decide), set7 _ (map7 es) rfl hl (by decide), List.map_set]
  rfl
theorem flatE_set {es : List Ent} {i : Nat} {k v v' : Val} (hi : es[i]? = some (some (k, v))) : (((flatE es).set (i * 7 + 3) (.int .i64 v'.k)).set (i * 7 + 4) (.int .i64 v'.n)).set (i * 7 + 5) (.string v'.s) = flatE (es.set i (some (k, v'))) := by
  have hlt := (List.getElem?_eq_some_iff.1 hi).1
  have hl : i < (es.map Ent.cells).length := by simpa using hlt
  have hg : (es.map Ent.cells)[i]? = some (Ent.cells (some (k, v))) := by rw [List.getElem?_map, hi, Option.map_some]
  have h0 := flat7_set (c := 3) (.int .i64 v'.k) (map7 es) hg (by decide)
  rw [flatE_flat, flatE_flat, h0]
  rw [set7 _ (map7 es) rfl hl (by decide), set7 _ (map7 es) rfl hl (by decide), List.map_set]
  rfl
theorem flatE_append (es fs : List Ent) : flatE (es ++ fs) = flatE es ++ flatE fs := List.flatMap_append
theorem row_set {w : World} {base : Nat} {e : TypeId} {size : Nat} {g n cap j : Nat} {xs : List Value} (h : w.ownsRow base e size (.slice (some ⟨g, 0, none⟩) n cap) n xs) (hj : j < xs.length) (u : Value) :
    (w.setCell ⟨g, j, none⟩ u).ownsRow base e size (.slice (some ⟨g, 0, none⟩) n cap) n (xs.set j u) := by
  obtain ⟨h1, h2⟩ := h
  rcases h2 with ⟨h2, _⟩ | ⟨g', cap', cur, h2, h3, h4, h5, h6, h7, h8⟩
  · cases h2
  · cases h2
    refine ⟨by simpa using h1, .inr ⟨g, cap, cur.setIfInBounds j u, rfl, h3, ?_, h5, h6, by simpa using h7, ?_⟩⟩
    · unfold World.setCell
      simp [Array.getElem?_modify, h4]
    · rw [Array.toList_setIfInBounds, List.take_set, h8]
theorem row_frozen {w : World} {base : Nat} {e : TypeId} {size : Nat} {g n cap : Nat} {xs : List Value} (h : w.ownsRow base e size (.slice (some ⟨g, 0, none⟩) n cap) n xs) (j : Nat) : w.frozen? ⟨g, j, none⟩ = false := by
  rcases h.2 with ⟨h2, _⟩ | ⟨g', cap', cur, h2, h3, h4, _⟩
  · cases h2
  · cases h2
    simp [World.frozen?, h4]
end Go.Proofs.Ytmjfmfelbmbniaa
