/- Layer 14: what was set last is there; the length is a border. Plain lemmas. -/
import Derived.Test.YtmjfmfelbmbniaaTbC
namespace Go.Proofs.Ytmjfmfelbmbniaa
open Go.RowKit Go.Maps HK ShM
set_option linter.unusedVariables false
set_option linter.unusedSimpArgs false
theorem getA_drop (L : Pairs) (k y : Val) : getA (dropA L k) y = if y = k then none else getA L y := by
  unfold getA dropA
  induction L with
  | nil => simp
  | cons x r ih =>
    rw [List.filter_cons]
    by_cases h1 : x.1 = k
    · rw [if_neg (by simp [h1]), ih]
      by_cases h2 : y = k
      · rw [if_pos h2, if_pos h2]
      · rw [if_neg h2, if_neg h2, List.find?_cons]
        have h3 : ¬ x.1 = y := fun e => h2 (e.symm.trans h1)
        simp [h3]
    · rw [if_pos (by simp [h1]), List.find?_cons, List.find?_cons]
      by_cases h3 : x.1 = y
      · have h2 : ¬ y = k := fun e => h1 (h3.trans e)
        rw [if_neg h2]
        simp [h3]
      · simp only [h3, decide_false]
        exact ih
/-- A key's value, of a key as tables keep it. -/
def lookT (A : List Val) (R : Pairs) (k : Val) : Val := if inA A k then A.getD (k.n - 1).toNat Val.nil else (getA R k).getD Val.nil
theorem inA_key {A : List Val} {k : Val} (hk : k.own = k) (h : inA A k = true) : ∃ j : Nat, j < A.length ∧ k = intV ((j : Nat) + 1) := by
  unfold inA at h
  simp only [Bool.and_eq_true, decide_eq_true_eq] at h
  obtain ⟨⟨h1, h2⟩, h3⟩ := h
  obtain ⟨a, n, s⟩ := k
  have h1 : a = 2 := h1
  subst h1
  have hs : s = Val.e := by
    have := congrArg Val.s hk
    exact this.symm
  subst hs
  exact ⟨(n - 1).toNat, by have h2 : 1 ≤ n := h2; have h3 : n ≤ (A.length : Int) := h3; omega, by show (⟨2, n, Val.e⟩ : Val) = ⟨2, _, Val.e⟩; have h2 : 1 ≤ n := h2; rw [show (((n - 1).toNat : Nat) : Int) + 1 = n by omega]⟩
theorem inA_int (A : List Val) (j : Nat) : inA A (intV ((j : Nat) + 1)) = decide (j < A.length) := by
  unfold inA
  by_cases h : j < A.length
  · rw [decide_eq_true h]
    have h1 : decide ((j : Int) + 1 ≤ (A.length : Int)) = true := decide_eq_true (by omega)
    have h2 : decide (1 ≤ (j : Int) + 1) = true := decide_eq_true (by omega)
    show (true && decide (1 ≤ (j : Int) + 1) && decide ((j : Int) + 1 ≤ (A.length : Int))) = true
    rw [h1, h2]; rfl
  · rw [decide_eq_false h]
    have h1 : decide ((j : Int) + 1 ≤ (A.length : Int)) = false := decide_eq_false (by omega)
    show (true && decide (1 ≤ (j : Int) + 1) && decide ((j : Int) + 1 ≤ (A.length : Int))) = false
    rw [h1, Bool.and_false]
theorem look_int {A : List Val} {R : Pairs} {j : Nat} (h : j < A.length) : lookT A R (intV ((j : Nat) + 1)) = A[j] := by
  unfold lookT
  rw [inA_int, decide_eq_true h, if_pos rfl]
  show A.getD ((j : Int) + 1 - 1).toNat Val.nil = _
  rw [show ((j : Int) + 1 - 1).toNat = j by omega, List.getD_eq_getElem?_getD, List.getElem?_eq_getElem h]
  rfl
theorem look_out {A : List Val} {R : Pairs} {k : Val} (h : inA A k = false) : lookT A R k = (getA R k).getD Val.nil := by
  unfold lookT
  rw [h]; rfl
theorem tget_look (s : Tab) (x : Val) : tgetM s x = if x.bad then Val.nil else lookT s.A s.R (keyV x) := by
  cases hb : x.bad with
  | true =>
    have hi : inA s.A x = false := by
      unfold inA
      have : decide (x.k = 2) = false := decide_eq_false (fun h => by
        unfold Val.bad Val.strange at hb
        rw [h] at hb
        simp at hb)
      rw [this]; rfl
    unfold tgetM getV
    rw [hi, hb]; rfl
  | false =>
    rw [if_neg (by decide)]
    have hk : (keyV x).k = x.k := keyV_k hb
    unfold tgetM lookT
    by_cases h2 : x.k = 2
    · have hn : (keyV x).n = x.n := by
        rw [keyV_own hb]
        obtain ⟨a, n, s⟩ := x
        have h2 : a = 2 := h2
        subst h2
        rfl
      have hi : inA s.A (keyV x) = inA s.A x := by unfold inA; rw [hk, hn]
      rw [hi, hn]
      unfold getV
      rw [hb]; rfl
    · have hi : inA s.A x = false := by unfold inA; rw [decide_eq_false h2]; rfl
      have hi' : inA s.A (keyV x) = false := by unfold inA; rw [hk, decide_eq_false h2]; rfl
      rw [hi, hi']
      unfold getV
      rw [hb]; rfl
/-- What stays true of a table: no key of the array is in the rest, the array ends with a value, what would follow is not there. -/
structure TOK (s : Tab) : Prop where
  a : ∀ v, s.A.getLast? = some v → v.k ≠ 0
  d : ∀ p ∈ s.R, inA s.A p.1 = false
  b : (getV s.R (intV (s.A.length + 1))).k = 0
  o : ∀ v ∈ s.A, v.own = v
theorem look_key {R : Pairs} {A : List Val} (hd : ∀ p ∈ R, inA A p.1 = false) {k : Val} (h : inA A k = true) : getA R k = none :=
  getA_none (fun p hp e => by have := hd p hp; rw [e, h] at this; cases this)
theorem getV_int (R : Pairs) (n : Int) : getV R (intV n) = (getA R (intV n)).getD Val.nil := by unfold getV; rfl
theorem inA_snoc {A : List Val} {u k : Val} (hk : k.own = k) : inA (A ++ [u]) k = (inA A k || decide (k = intV (A.length + 1))) := by
  cases h : inA (A ++ [u]) k with
  | true =>
    obtain ⟨j, hj, rfl⟩ := inA_key hk h
    rw [List.length_append, List.length_singleton] at hj
    rw [inA_int]
    by_cases e : j < A.length
    · rw [decide_eq_true e]; rfl
    · obtain rfl : j = A.length := by omega
      simp
  | false =>
    symm
    rw [Bool.or_eq_false_iff]
    constructor
    · cases h2 : inA A k with
      | false => rfl
      | true =>
        obtain ⟨j, hj, rfl⟩ := inA_key hk h2
        rw [inA_int, List.length_append, List.length_singleton, decide_eq_true (by omega)] at h
        cases h
    · apply decide_eq_false
      rintro rfl
      rw [inA_int, List.length_append, List.length_singleton, decide_eq_true (by omega)] at h
      cases h
/-- A value put behind the array. -/
theorem look_snoc {A : List Val} {R : Pairs} (hd : ∀ p ∈ R, inA A p.1 = false) (u : Val) {k : Val} (hk : k.own = k) : lookT (A ++ [u]) (dropA R (intV (A.length + 1))) k = if intV (A.length + 1) = k then u else lookT A R k := by
  by_cases e : intV (A.length + 1) = k
  · rw [if_pos e, ← e]
    have := look_int (A := A ++ [u]) (R := dropA R (intV (A.length + 1))) (j := A.length) (by simp)
    rw [this]
    simp
  · rw [if_neg e]
    have hi := inA_snoc (A := A) (u := u) hk
    rw [decide_eq_false (fun h => e h.symm), Bool.or_false] at hi
    unfold lookT
    rw [hi]
    cases h : inA A k with
    | true =>
      obtain ⟨j, hj, rfl⟩ := inA_key hk h
      show (A ++ [u]).getD ((j : Int) + 1 - 1).toNat Val.nil = A.getD ((j : Int) + 1 - 1).toNat Val.nil
      rw [show ((j : Int) + 1 - 1).toNat = j by omega, List.getD_eq_getElem?_getD, List.getD_eq_getElem?_getD, List.getElem?_append_left hj]
    | false =>
      show (getA (dropA R _) k).getD Val.nil = _
      rw [getA_drop, if_neg (fun h => e h.symm)]
      rfl
theorem drop_out {A : List Val} {R : Pairs} (hd : ∀ p ∈ R, inA A p.1 = false) (hr : ∀ p ∈ R, p.1.own = p.1) (u : Val) : ∀ p ∈ dropA R (intV (A.length + 1)), inA (A ++ [u]) p.1 = false := by
  intro p hp
  unfold dropA at hp
  obtain ⟨h1, h2⟩ := List.mem_filter.1 hp
  rw [inA_snoc (hr p h1), hd p h1, Bool.false_or]
  simpa using h2
theorem drop_mem {R : Pairs} {k : Val} {p : Val × Val} (h : p ∈ dropA R k) : p ∈ R := (List.mem_filter.1 h).1
/-- What follows in the rest comes behind the array: nothing else changes. -/
theorem pull_look : ∀ (f : Nat) (A : List Val) (R : Pairs), (∀ p ∈ R, inA A p.1 = false) → (∀ p ∈ R, p.1.own = p.1) → R.length ≤ f → A ≠ [] → (∀ v, A.getLast? = some v → v.k ≠ 0) →
    (∀ k, k.own = k → lookT (pull f A R).1 (pull f A R).2 k = lookT A R k) ∧ (∀ p ∈ (pull f A R).2, inA (pull f A R).1 p.1 = false) ∧ (∀ p ∈ (pull f A R).2, p ∈ R) ∧ (getV (pull f A R).2 (intV ((pull f A R).1.length + 1))).k = 0 ∧ (∀ v, (pull f A R).1.getLast? = some v → v.k ≠ 0)
  | 0, A, R, hd, hr, hf, hn, hl => by
    have : R = [] := List.eq_nil_of_length_eq_zero (by omega)
    subst this
    exact ⟨fun k hk => rfl, hd, fun p hp => hp, rfl, hl⟩
  | f + 1, A, R, hd, hr, hf, hn, hl => by
    by_cases h : (getV R (intV (A.length + 1))).k = 0
    · rw [pull_stop _ h]
      exact ⟨fun k hk => rfl, hd, fun p hp => hp, h, hl⟩
    · rw [pull_go f h]
      have hs := getV_some h
      have hlen := dropA_len hs.2
      have hkey : keyV (intV ((A.length : Int) + 1)) = intV (A.length + 1) := rfl
      rw [hkey] at hlen
      obtain ⟨g1, g2, g3, g4, g5⟩ := pull_look f (A ++ [getV R (intV (A.length + 1))]) (dropA R (intV (A.length + 1))) (drop_out hd hr _) (fun p hp => hr p (drop_mem hp)) (by omega) (by simp) (fun v hv => by
        rw [List.getLast?_append, List.getLast?_singleton] at hv
        have hv : getV R (intV (A.length + 1)) = v := by simpa using hv
        rw [← hv]; exact h)
      refine ⟨fun k hk => ?_, g2, fun p hp => drop_mem (g3 p hp), g4, g5⟩
      rw [g1 k hk, look_snoc hd _ hk]
      by_cases e : intV (A.length + 1) = k
      · rw [if_pos e, ← e, look_out (by rw [inA_int]; exact decide_eq_false (by omega)), getV_int]
      · rw [if_neg e]
/-! Set. -/
theorem trim_spec : ∀ (l : List Val), ∃ t, l = trim l ++ t ∧ (∀ v ∈ t, v.k = 0) ∧ (∀ v, (trim l).getLast? = some v → v.k ≠ 0) := by
  intro l
  induction hn : l.length generalizing l with
  | zero =>
    have : l = [] := List.eq_nil_of_length_eq_zero hn
    subst this
    exact ⟨[], rfl, (fun v hv => by cases hv), (fun v hv => by cases hv)⟩
  | succ n ih =>
    obtain ⟨r, u, rfl⟩ : ∃ r u, l = r ++ [u] := ⟨l.dropLast, l.getLast (fun h => by rw [h] at hn; cases hn), (List.dropLast_concat_getLast _).symm⟩
    rw [trim_snoc]
    by_cases hu : u.k = 0
    · rw [if_pos hu]
      obtain ⟨t, h1, h2, h3⟩ := ih r (by rw [List.length_append, List.length_singleton] at hn; omega)
      refine ⟨t ++ [u], by rw [← List.append_assoc, ← h1], fun v hv => ?_, h3⟩
      rcases List.mem_append.1 hv with hv | hv
      · exact h2 v hv
      · rw [List.mem_singleton] at hv; rw [hv]; exact hu
    · rw [if_neg hu]
      refine ⟨[], by simp, (fun v hv => by cases hv), fun v hv => ?_⟩
      rw [List.getLast?_append, List.getLast?_singleton] at hv
      have hv : u = v := by simpa using hv
      rw [← hv]; exact hu
theorem key_canon {x : Val} (hb : x.bad = false) : (keyV x).own = keyV x := by rw [keyV_own hb]; exact own_own x
theorem look_set {D F : Int} {T : List Sh} {s : Tab} (h : TOK s) (hr : ∀ p ∈ s.R, p.1.own = p.1) (hor : ownR s.R) {x v : Val} (hb : x.bad = false) : (∀ k, k.own = k → lookT (tsetM D F T s x v).s.A (tsetM D F T s x v).s.R k = if keyV x = k then v.own else lookT s.A s.R k) ∧ TOK (tsetM D F T s x v).s ∧ (∀ p ∈ (tsetM D F T s x v).s.R, p.1.own = p.1) ∧ (tsetM D F T s x v).e = 0 ∧ ((tsetM D F T s x v).fresh = 0 ∨ (tsetM D F T s x v).fresh = 1) := by
  have hcx := key_canon hb
  unfold tsetM
  rw [hb, if_neg (by decide)]
  cases hi : inA s.A (keyV x) with
  | true =>
    rw [if_pos rfl]
    dsimp only
    obtain ⟨j, hj, hjx⟩ := inA_key hcx hi
    rw [hjx]
    have hjn : ((intV ((j : Nat) + 1)).n - 1).toNat = j := by show ((j : Int) + 1 - 1).toNat = j; omega
    rw [hjn]
    obtain ⟨t, h1, h2, h3⟩ := trim_spec (s.A.set j v.own)
    have hlen : (trim (s.A.set j v.own)).length + t.length = s.A.length := by
      have := congrArg List.length h1
      rw [List.length_set, List.length_append] at this
      omega
    have hsub : ∀ k, inA (trim (s.A.set j v.own)) k = true → inA s.A k = true := fun k hk => by
      unfold inA at hk ⊢
      simp only [Bool.and_eq_true, decide_eq_true_eq] at hk ⊢
      exact ⟨hk.1, by have := hk.2; omega⟩
    have hd' : ∀ p ∈ s.R, inA (trim (s.A.set j v.own)) p.1 = false := fun p hp => by
      cases e : inA (trim (s.A.set j v.own)) p.1 with
      | false => rfl
      | true => have := h.d p hp; rw [hsub _ e] at this; cases this
    have hget : ∀ m (hm : m < s.A.length), (s.A.set j v.own)[m]'(by rw [List.length_set]; exact hm) = if j = m then v.own else s.A[m] := fun m hm => by
      rw [List.getElem_set]
    refine ⟨fun k hk => ?_, ⟨h3, hd', ?_, fun u hu => ?_⟩, hr, rfl, .inl rfl⟩
    · cases hin : inA s.A k with
      | false =>
        have hin' : inA (trim (s.A.set j v.own)) k = false := by
          cases e : inA (trim (s.A.set j v.own)) k with
          | false => rfl
          | true => rw [hsub _ e] at hin; cases hin
        rw [look_out hin', look_out hin, if_neg (fun e => by rw [← e, inA_int, decide_eq_true hj] at hin; cases hin)]
      | true =>
        obtain ⟨m, hm, rfl⟩ := inA_key hk hin
        have hval : (if intV ((j : Nat) + 1) = intV ((m : Nat) + 1) then v.own else lookT s.A s.R (intV ((m : Nat) + 1))) = (s.A.set j v.own)[m]'(by rw [List.length_set]; exact hm) := by
          rw [hget m hm, look_int hm]
          by_cases e : j = m
          · subst e; rw [if_pos rfl, if_pos rfl]
          · rw [if_neg e, if_neg (fun he => e (by have := congrArg Val.n he; have : (j : Int) + 1 = (m : Int) + 1 := this; omega))]
        rw [hval]
        by_cases hmt : m < (trim (s.A.set j v.own)).length
        · rw [look_int hmt]
          have : (s.A.set j v.own)[m]? = (trim (s.A.set j v.own))[m]? := by
            conv => lhs; rw [h1]
            rw [List.getElem?_append_left hmt]
          rw [List.getElem?_eq_getElem hmt, List.getElem?_eq_getElem (by rw [List.length_set]; exact hm)] at this
          exact (Option.some.inj this).symm
        · have hout : inA (trim (s.A.set j v.own)) (intV ((m : Nat) + 1)) = false := by rw [inA_int]; exact decide_eq_false hmt
          rw [look_out hout, look_key h.d hin]
          have hmem : (s.A.set j v.own)[m]'(by rw [List.length_set]; exact hm) ∈ t := by
            have : (s.A.set j v.own)[m]? = t[m - (trim (s.A.set j v.own)).length]? := by
              conv => lhs; rw [h1]
              rw [List.getElem?_append_right (by omega)]
            rw [List.getElem?_eq_getElem (by rw [List.length_set]; exact hm)] at this
            exact List.mem_of_getElem? this.symm
          have h0 := h2 _ hmem
          have hown : ((s.A.set j v.own)[m]'(by rw [List.length_set]; exact hm)).own = (s.A.set j v.own)[m]'(by rw [List.length_set]; exact hm) := by
            rw [hget m hm]
            split
            · exact own_own v
            · exact h.o _ (List.getElem_mem _)
          have h5 : ((s.A.set j v.own)[m]'(by rw [List.length_set]; exact hm)).own.k = 0 := by rw [hown]; exact h0
          have h4 := own_zero h5
          rw [hown] at h4
          rw [h4]; rfl
    · by_cases he : t = []
      · have : (trim (s.A.set j v.own)).length = s.A.length := by rw [he] at hlen; simpa using hlen
        rw [this]; exact h.b
      · have hlt : (trim (s.A.set j v.own)).length < s.A.length := by
          have : 0 < t.length := List.length_pos_iff.2 he
          omega
        rw [getV_int, look_key h.d (by rw [inA_int]; exact decide_eq_true hlt)]
        rfl
    · rcases List.mem_or_eq_of_mem_set (mem_trim hu) with h5 | h5
      · exact h.o u h5
      · rw [h5]; exact own_own v
  | false =>
    rw [if_neg (by decide)]
    by_cases hg : v.own.k ≠ 0 ∧ keyV x = intV (s.A.length + 1)
    · rw [if_pos hg]
      unfold growM
      dsimp only
      rw [hg.2]
      have hlen : (dropA s.R (intV (s.A.length + 1))).length ≤ s.R.length := List.length_filter_le _ _
      obtain ⟨g1, g2, g3, g4, g5⟩ := pull_look s.R.length (s.A ++ [v.own]) (dropA s.R (intV (s.A.length + 1))) (drop_out h.d hr _) (fun p hp => hr p (drop_mem hp)) hlen (by simp) (fun u hu => by
        rw [List.getLast?_append, List.getLast?_singleton] at hu
        have hu : v.own = u := by simpa using hu
        rw [← hu]; exact hg.1)
      have how := own_pull s.R.length (s.A ++ [v.own]) (dropA s.R (intV (s.A.length + 1))) (fun u hu => by
        rcases List.mem_append.1 hu with hu | hu
        · exact h.o u hu
        · rw [List.mem_singleton] at hu; subst hu; exact own_own v) (ownR_drop hor _)
      refine ⟨fun k hk => by rw [g1 k hk, look_snoc h.d _ hk], ⟨g5, g2, g4, ?_⟩, fun p hp => hr p (drop_mem (g3 p hp)), rfl, ?_⟩
      · exact how.1
      · split
        · exact .inl rfl
        · exact .inr rfl
    · rw [if_neg hg]
      have hA : (otherM D F T s x v).s.A = s.A ∧ (otherM D F T s x v).s.R = setL s.R x v ∧ (otherM D F T s x v).e = 0 ∧ ((otherM D F T s x v).fresh = 0 ∨ (otherM D F T s x v).fresh = 1) := by
        unfold otherM
        (repeat' split) <;> simp
      rw [hA.1, hA.2.1]
      have hmem : ∀ p ∈ setL s.R x v, p.1 = keyV x ∨ ∃ q ∈ s.R, q.1 = p.1 := by
        intro p hp
        have h1 : p.1 ∈ keysOf (setL s.R x v) := List.mem_map_of_mem hp
        rw [keys_set] at h1
        split at h1
        · rcases List.mem_append.1 h1 with h1 | h1
          · obtain ⟨q, h3, h4⟩ := List.mem_map.1 h1
            exact .inr ⟨q, h3, h4⟩
          · rw [List.mem_singleton] at h1; exact .inl h1
        · obtain ⟨q, h3, h4⟩ := List.mem_map.1 h1
          exact .inr ⟨q, h3, h4⟩
      refine ⟨fun k hk => ?_, ⟨by rw [hA.1]; exact h.a, fun p hp => ?_, ?_, by rw [hA.1]; exact h.o⟩, fun p hp => ?_, hA.2.2.1, hA.2.2.2⟩
      · cases hin : inA s.A k with
        | true =>
          rw [if_neg (fun e => by rw [e] at hi; rw [hi] at hin; cases hin)]
          unfold lookT
          rw [hin]; rfl
        | false => rw [look_out hin, look_out hin, getA_setL hb]
      · rw [hA.2.1] at hp
        rw [hA.1]
        rcases hmem p hp with e | ⟨q, h3, h4⟩
        · rw [e]; exact hi
        · rw [← h4]; exact h.d q h3
      · rw [hA.1, hA.2.1, getV_int, getA_setL hb]
        split
        · rename_i e
          by_cases hv : v.own.k = 0
          · exact hv
          · exact absurd ⟨hv, e⟩ hg
        · have := h.b
          rw [getV_int] at this
          exact this
      · rcases hmem p hp with e | ⟨q, h3, h4⟩
        · rw [e]; exact hcx
        · rw [← h4]; exact hr q h3
end Go.Proofs.Ytmjfmfelbmbniaa
