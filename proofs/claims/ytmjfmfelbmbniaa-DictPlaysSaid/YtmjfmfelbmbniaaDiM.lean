/- Layer 13: the open-addressed table as plain lists. -/
import Derived.Test.YtmjfmfelbmbniaaDiH
import Derived.Laws.BitsLemmas
namespace Go.Proofs.Ytmjfmfelbmbniaa
open Go.RowKit Go.Maps HK
set_option linter.unusedVariables false
set_option linter.unusedSimpArgs false
abbrev Ent := Option (Val × Val)
/-- An entry's place is found, or a free one. -/
def probe (T : List Nat) (es : List Ent) (k : Val) : Nat → Nat → Nat × Int
  | 0, p => (p, -1)
  | f + 1, p =>
    if T.getD p 0 = 0 then (p, -1)
    else if (es.getD (T.getD p 0 - 1) none).map (·.1) = some k then (p, ((T.getD p 0 - 1 : Nat) : Int))
    else probe T es k f ((p + 1) % T.length)
def startM (k : Val) (n : Nat) : Nat := (bits .and .i64 (IntKind.i64.wrap (hashV k)) ((n : Int) - 1)).toNat
def findM (T : List Nat) (es : List Ent) (k : Val) : Nat × Int := probe T es k T.length (startM k T.length)
theorem and_mask (x : Int) (n : Nat) (h0 : 0 < n) (h1 : n ≤ 4611686018427387904) : ∃ r : Nat, bits .and .i64 x ((n : Int) - 1) = (r : Int) ∧ r < n := by
  have hc : ((n : Int) - 1) = ((n - 1 : Nat) : Int) := by omega
  refine ⟨(BitVec.ofInt 64 x &&& BitVec.ofInt 64 ((n - 1 : Nat) : Int)).toNat, ?_, ?_⟩
  · rw [hc]
    have hlt : (BitVec.ofInt 64 x &&& BitVec.ofInt 64 ((n - 1 : Nat) : Int)).toNat ≤ n - 1 := by
      rw [BitVec.toNat_and, BitVec.ofInt_natCast, BitVec.toNat_ofNat, Nat.mod_eq_of_lt (by omega)]
      exact Nat.and_le_right
    simp only [bits]
    show IntKind.i64.wrap ((BitVec.ofInt 64 x &&& BitVec.ofInt 64 ((n - 1 : Nat) : Int)).toNat : Int) = _
    rw [IntKind.wrap_i64]
    omega
  · rw [BitVec.toNat_and, BitVec.ofInt_natCast, BitVec.toNat_ofNat, Nat.mod_eq_of_lt (by omega)]
    exact Nat.lt_of_le_of_lt Nat.and_le_right (by omega)
theorem start_spec (k : Val) (n : Nat) (h0 : 0 < n) (h1 : n ≤ 4611686018427387904) : bits .and .i64 (IntKind.i64.wrap (hashV k)) ((n : Int) - 1) = (startM k n : Int) ∧ startM k n < n := by
  obtain ⟨r, h2, h3⟩ := and_mask (IntKind.i64.wrap (hashV k)) n h0 h1
  unfold startM
  rw [h2]
  exact ⟨by simp, by simpa using h3⟩
theorem and_next (n p : Nat) (hn : ∃ m, n = 2 ^ m) (h1 : n ≤ 4611686018427387904) (hp : p < n) : bits .and .i64 ((p : Int) + 1) ((n : Int) - 1) = (((p + 1) % n : Nat) : Int) := by
  obtain ⟨m, rfl⟩ := hn
  have hm : m ≤ 62 := by
    rcases Nat.lt_or_ge 62 m with h | h
    · have : 2 ^ 63 ≤ 2 ^ m := Nat.pow_le_pow_right (by decide) h
      omega
    · exact h
  have := bits_mask .i64 63 (by decide) (fun n a b => by rw [IntKind.wrap_i64]; omega) m (by omega) ((p : Int) + 1) (by omega) (by omega)
  rw [show (((2 : Nat) ^ m : Nat) : Int) - 1 = 2 ^ m - 1 by simp, this]
  simp
section
variable {T : List Nat} {es fs : List Ent} {k : Val} {p : Nat}
theorem mod_step (n p j : Nat) : ((p + 1) % n + j) % n = (p + (j + 1)) % n := by
  rw [Nat.mod_add_mod, show p + 1 + j = p + (j + 1) by omega]
theorem probe_found {i : Nat} {v : Val} (hi : es.getD i none = some (k, v)) (hu : ∀ x w, es.getD x none = some (k, w) → x = i) : ∀ (f p j : Nat), j < f → p < T.length → T.getD ((p + j) % T.length) 0 = i + 1 → (∀ j', j' < j → T.getD ((p + j') % T.length) 0 ≠ 0) → (probe T es k f p).2 = i
  | 0, p, j, hj, _, _, _ => absurd hj (Nat.not_lt_zero _)
  | f + 1, p, 0, hj, hp, ht, hn => by
    rw [Nat.add_zero, Nat.mod_eq_of_lt hp] at ht
    unfold probe
    rw [ht]
    simp only [Nat.add_sub_cancel, hi, Option.map_some, if_true]
    rw [if_neg (by omega)]
  | f + 1, p, j + 1, hj, hp, ht, hn => by
    have h0 := hn 0 (by omega)
    rw [Nat.add_zero, Nat.mod_eq_of_lt hp] at h0
    unfold probe
    rw [if_neg h0]
    by_cases hm : (es.getD (T.getD p 0 - 1) none).map (·.1) = some k
    · rw [if_pos hm]
      obtain ⟨⟨k', w⟩, h1, h2⟩ := Option.map_eq_some_iff.1 hm
      cases h2
      rw [hu _ w h1]
    · rw [if_neg hm]
      exact probe_found hi hu f ((p + 1) % T.length) j (by omega) (Nat.mod_lt _ (by omega)) (by rw [mod_step]; exact ht) (fun j' hj' => by rw [mod_step]; exact hn (j' + 1) (by omega))
theorem probe_absent (ha : ∀ x w, es.getD x none ≠ some (k, w)) : ∀ (f p : Nat), (∃ j, j < f ∧ T.getD ((p + j) % T.length) 0 = 0) → p < T.length → ∃ j, probe T es k f p = ((p + j) % T.length, -1) ∧ T.getD ((p + j) % T.length) 0 = 0 ∧ ∀ j', j' < j → T.getD ((p + j') % T.length) 0 ≠ 0
  | 0, p, ⟨j, hj, _⟩, _ => absurd hj (Nat.not_lt_zero _)
  | f + 1, p, ⟨j, hj, hz⟩, hp => by
    unfold probe
    by_cases h0 : T.getD p 0 = 0
    · exact ⟨0, by rw [if_pos h0, Nat.add_zero, Nat.mod_eq_of_lt hp], by rwa [Nat.add_zero, Nat.mod_eq_of_lt hp], fun _ h => absurd h (Nat.not_lt_zero _)⟩
    · rw [if_neg h0]
      have hm : ¬ (es.getD (T.getD p 0 - 1) none).map (·.1) = some k := fun hm => by
        obtain ⟨⟨k', w⟩, h1, h2⟩ := Option.map_eq_some_iff.1 hm
        cases h2
        exact ha _ w h1
      rw [if_neg hm]
      have hj0 : j ≠ 0 := by
        rintro rfl
        rw [Nat.add_zero, Nat.mod_eq_of_lt hp] at hz
        exact h0 hz
      obtain ⟨q, h1, h2, h3⟩ := probe_absent ha f ((p + 1) % T.length) ⟨j - 1, by omega, by rw [mod_step, show j - 1 + 1 = j by omega]; exact hz⟩ (Nat.mod_lt _ (by omega))
      rw [mod_step] at h1 h2
      refine ⟨q + 1, h1, h2, fun j' hj' => ?_⟩
      cases j' with
      | zero => rwa [Nat.add_zero, Nat.mod_eq_of_lt hp]
      | succ j' => rw [← mod_step]; exact h3 j' (by omega)
theorem probe_congr (h : ∀ x ∈ T, x ≠ 0 → es.getD (x - 1) none = fs.getD (x - 1) none) : ∀ (f p : Nat), probe T es k f p = probe T fs k f p
  | 0, p => rfl
  | f + 1, p => by
    unfold probe
    by_cases h0 : T.getD p 0 = 0
    · rw [if_pos h0, if_pos h0]
    · have hp : p < T.length := by
        rcases Nat.lt_or_ge p T.length with h | h
        · exact h
        · exact absurd (by simp [List.getD, List.getElem?_eq_none h]) h0
      have hm : T.getD p 0 ∈ T := by simp [List.getD, List.getElem?_eq_getElem hp]
      rw [if_neg h0, if_neg h0, h _ hm h0, probe_congr h f]
theorem zero_near (n q p : Nat) (hq : q < n) (hp : p < n) : ∃ j, j < n ∧ (p + j) % n = q := by
  rcases Nat.lt_or_ge q p with h | h
  · exact ⟨n - p + q, by omega, by rw [show p + (n - p + q) = q + n by omega, Nat.add_mod_right, Nat.mod_eq_of_lt hq]⟩
  · exact ⟨q - p, by omega, by rw [show p + (q - p) = q by omega, Nat.mod_eq_of_lt hq]⟩
theorem zero_at : ∀ {T : List Nat}, T.countP (fun x => decide (x ≠ 0)) < T.length → ∃ q, q < T.length ∧ T.getD q 0 = 0
  | [], h => by simp at h
  | x :: r, h => by
    by_cases hx : x = 0
    · exact ⟨0, by simp, by simpa using hx⟩
    · rw [List.countP_cons_of_pos (by simpa using hx), List.length_cons] at h
      obtain ⟨q, h1, h2⟩ := zero_at (T := r) (by omega)
      exact ⟨q + 1, by simpa using h1, by simpa using h2⟩
theorem count_set : ∀ {T : List Nat} {q x : Nat}, q < T.length → T.getD q 0 = 0 → x ≠ 0 → (T.set q x).countP (fun x => decide (x ≠ 0)) = T.countP (fun x => decide (x ≠ 0)) + 1
  | [], q, x, h, _, _ => by simp at h
  | y :: r, 0, x, h, h1, h2 => by
    have : y = 0 := by simpa using h1
    subst this
    rw [List.set_cons_zero, List.countP_cons_of_pos (by simpa using h2), List.countP_cons_of_neg (by simp)]
  | y :: r, q + 1, x, h, h1, h2 => by
    rw [List.set_cons_succ, List.countP_cons, List.countP_cons, count_set (by simpa using h) (by simpa using h1) h2]
    omega
/-- The table finds what the entries hold. -/
structure TabOK (T : List Nat) (es : List Ent) : Prop where
  pow : ∃ m, T.length = 2 ^ m
  big : 8 ≤ T.length
  top : T.length ≤ 1048576
  le : ∀ x ∈ T, x ≤ es.length
  cnt : T.countP (fun x => decide (x ≠ 0)) ≤ es.length
  fill : 4 * es.length ≤ 3 * T.length
  reach : ∀ i k v, es.getD i none = some (k, v) → ∃ j, T.getD ((startM k T.length + j) % T.length) 0 = i + 1 ∧ ∀ j', j' < j → T.getD ((startM k T.length + j') % T.length) 0 ≠ 0
/-- No key stands twice. -/
def Uniq (es : List Ent) : Prop := ∀ i j k v w, es.getD i none = some (k, v) → es.getD j none = some (k, w) → i = j
theorem TabOK.zero (h : TabOK T es) : ∃ q, q < T.length ∧ T.getD q 0 = 0 := zero_at (by have := h.cnt; have := h.fill; have := h.big; omega)
theorem TabOK.start (h : TabOK T es) (k : Val) : startM k T.length < T.length := (start_spec k T.length (by have := h.big; omega) (by have := h.top; omega)).2
theorem TabOK.found (h : TabOK T es) (hu : Uniq es) {i : Nat} {v : Val} (hi : es.getD i none = some (k, v)) : (findM T es k).2 = i := by
  obtain ⟨j, h1, h2⟩ := h.reach i k v hi
  obtain ⟨q, hq, hz⟩ := h.zero
  refine probe_found hi (fun x w hx => hu x i k w v hx hi) _ _ j ?_ (h.start k) h1 h2
  rcases Nat.lt_or_ge j T.length with h' | h'
  · exact h'
  · obtain ⟨j', h3, h4⟩ := zero_near T.length q (startM k T.length) hq (h.start k)
    exact absurd (by rw [h4]; exact hz) (h2 j' (by omega))
theorem TabOK.absent (h : TabOK T es) (ha : ∀ x w, es.getD x none ≠ some (k, w)) : ∃ j, findM T es k = ((startM k T.length + j) % T.length, -1) ∧ T.getD ((startM k T.length + j) % T.length) 0 = 0 ∧ ∀ j', j' < j → T.getD ((startM k T.length + j') % T.length) 0 ≠ 0 := by
  obtain ⟨q, hq, hz⟩ := h.zero
  obtain ⟨j', h3, h4⟩ := zero_near T.length q (startM k T.length) hq (h.start k)
  exact probe_absent ha _ _ ⟨j', h3, by rw [h4]; exact hz⟩ (h.start k)
theorem getD_set {T : List Nat} {q x i : Nat} (hq : q < T.length) : (T.set q x).getD i 0 = if i = q then x else T.getD i 0 := by
  simp only [List.getD_eq_getElem?_getD]
  rw [List.getElem?_set]
  by_cases e : q = i
  · subst e; simp [hq]
  · simp [e, Ne.symm e]
theorem getD_snoc {es : List Ent} {x : Ent} {i : Nat} : (es ++ [x]).getD i none = if i = es.length then x else es.getD i none := by
  simp only [List.getD_eq_getElem?_getD]
  rcases Nat.lt_trichotomy i es.length with h | h | h
  · rw [List.getElem?_append_left h, if_neg (by omega)]
  · subst h; simp
  · rw [List.getElem?_eq_none (by simp; omega), List.getElem?_eq_none (by omega), if_neg (by omega)]
theorem TabOK.put (h : TabOK T es) (ha : ∀ x w, es.getD x none ≠ some (k, w)) (v : Val) (hf : 4 * (es.length + 1) ≤ 3 * T.length) : TabOK (T.set (findM T es k).1 (es.length + 1)) (es ++ [some (k, v)]) := by
  obtain ⟨j, h1, h2, h3⟩ := h.absent ha
  rw [h1]
  have hq : (startM k T.length + j) % T.length < T.length := Nat.mod_lt _ (by have := h.big; omega)
  dsimp only
  generalize hqq : (startM k T.length + j) % T.length = q at *
  refine ⟨?_, ?_, ?_, ?_, ?_, ?_, ?_⟩
  · simpa using h.pow
  · simpa using h.big
  · simpa using h.top
  · intro x hx
    rw [List.length_append, List.length_singleton]
    rcases List.mem_or_eq_of_mem_set hx with hx | rfl
    · have := h.le x hx; omega
    · exact Nat.le_refl _
  · rw [count_set hq h2 (by omega), List.length_append]
    have := h.cnt
    simpa using this
  · rw [List.length_append, List.length_set]; simpa using hf
  · intro i k' v' hi
    rw [getD_snoc] at hi
    rw [List.length_set]
    by_cases e : i = es.length
    · rw [if_pos e] at hi
      cases hi
      refine ⟨j, by rw [getD_set hq, if_pos hqq, e], fun j' hj' => ?_⟩
      rw [getD_set hq]
      split
      · omega
      · exact h3 j' hj'
    · rw [if_neg e] at hi
      obtain ⟨j0, g1, g2⟩ := h.reach i k' v' hi
      refine ⟨j0, ?_, fun j' hj' => ?_⟩
      · rw [getD_set hq, if_neg (fun e' => by rw [e', h2] at g1; omega)]; exact g1
      · rw [getD_set hq]
        split
        · omega
        · exact g2 j' hj'
/-- An entry's value, or that it is none any more, says nothing of where the others stand. -/
theorem TabOK.over (h : TabOK T es) {i : Nat} {x : Ent} (hx : ∀ k v, x = some (k, v) → ∃ w, es.getD i none = some (k, w)) : TabOK T (es.set i x) := by
  refine ⟨h.pow, h.big, h.top, fun y hy => by rw [List.length_set]; exact h.le y hy, by rw [List.length_set]; exact h.cnt, by rw [List.length_set]; exact h.fill, fun j k v hj => ?_⟩
  rw [List.getD_eq_getElem?_getD, List.getElem?_set] at hj
  by_cases e : i = j
  · rw [if_pos e] at hj
    subst e
    split at hj
    · obtain ⟨w, hw⟩ := hx k v (by simpa using hj)
      exact h.reach i k w hw
    · cases hj
  · rw [if_neg e, ← List.getD_eq_getElem?_getD] at hj
    exact h.reach j k v hj
/-- Nothing has come yet. -/
theorem TabOK.none (m : Nat) (h3 : 3 ≤ m) (h20 : m ≤ 20) : TabOK (List.replicate (2 ^ m) 0) [] := by
  have h8 : 2 ^ 3 ≤ 2 ^ m := Nat.pow_le_pow_right (by decide) h3
  have h9 : 2 ^ m ≤ 2 ^ 20 := Nat.pow_le_pow_right (by decide) h20
  refine ⟨⟨m, by simp⟩, by simp; omega, by simp; omega, fun x hx => ?_, ?_, ?_, fun i k v hi => ?_⟩
  · rw [(List.mem_replicate.1 hx).2]; simp
  · simp [List.countP_replicate]
  · simp
  · simp at hi
end
end Go.Proofs.Ytmjfmfelbmbniaa
