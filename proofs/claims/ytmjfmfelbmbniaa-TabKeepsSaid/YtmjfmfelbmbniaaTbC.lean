/- Layer 14: steps on tables beside one another, without the program. -/
import Derived.Test.YtmjfmfelbmbniaaTbB
namespace Go.Proofs.Ytmjfmfelbmbniaa
open Go.RowKit Go.Maps HK ShM
set_option linter.unusedVariables false
set_option linter.unusedSimpArgs false
/-- What was added is found. -/
theorem addM_twice {D F : Int} {T : List Sh} {i : Nat} (hi : i < T.length) (z : ByteArray) : addM D F (addM D F T i z).T i z = addM D F T i z := by
  have hr : ¬ ((i : Int) < 0 ∨ (T.length : Int) ≤ (i : Int)) := by omega
  by_cases hz : z ∈ ksOf T i
  · have h1 : addM D F T i z = ⟨0, false, T⟩ := by
      unfold addM
      rw [if_neg hr]
      show (if z ∈ ksOf T i then _ else _) = _
      rw [if_pos hz]
    rw [h1]; exact h1
  · cases hk : kidFrom T 0 i z with
    | some j =>
      have h1 : addM D F T i z = ⟨j, true, T⟩ := by
        unfold addM
        rw [if_neg hr]
        show (if z ∈ ksOf T i then _ else _) = _
        rw [if_neg hz, hk]
      rw [h1]; exact h1
    | none =>
      by_cases hl : D ≤ ((ksOf T i).length : Int) ∨ F ≤ ((kidCount T i : Nat) : Int) ∨ 4096 ≤ T.length
      · have h1 : addM D F T i z = ⟨0, false, T⟩ := by
          unfold addM
          rw [if_neg hr]
          show (if z ∈ ksOf T i then _ else _) = _
          rw [if_neg hz, hk]
          show (if D ≤ ((ksOf T i).length : Int) ∨ F ≤ ((kidCount T i : Nat) : Int) ∨ 4096 ≤ T.length then _ else _) = _
          rw [if_pos hl]
        rw [h1]; exact h1
      · have h1 : addM D F T i z = ⟨T.length, true, T ++ [(ksOf T i ++ [z], (i : Int))]⟩ := by
          unfold addM
          rw [if_neg hr]
          show (if z ∈ ksOf T i then _ else _) = _
          rw [if_neg hz, hk]
          show (if D ≤ ((ksOf T i).length : Int) ∨ F ≤ ((kidCount T i : Nat) : Int) ∨ 4096 ≤ T.length then _ else _) = _
          rw [if_neg hl]
          rfl
        rw [h1]
        have hk1 : ksOf (T ++ [(ksOf T i ++ [z], (i : Int))]) i = ksOf T i := by
          show ((T ++ _).getD i ([], 0)).1 = _
          rw [getD_append_left hi]
        show addM D F (T ++ [(ksOf T i ++ [z], (i : Int))]) i z = _
        unfold addM
        rw [if_neg (by rw [List.length_append]; omega)]
        show (if z ∈ ksOf (T ++ [(ksOf T i ++ [z], (i : Int))]) i then _ else _) = _
        rw [hk1, if_neg hz, kidFrom_append, hk]
        show (match kidFrom [(ksOf T i ++ [z], (i : Int))] (0 + T.length) i z with | some j => _ | none => _) = _
        have : kidFrom [(ksOf T i ++ [z], (i : Int))] (0 + T.length) i z = some T.length := by
          unfold kidFrom
          rw [if_pos ⟨rfl, by simp⟩, Nat.zero_add]
        rw [this]
theorem tset_twice {D F : Int} {T : List Sh} {s : Tab} (hi : s.i < T.length) (x v : Val) : tsetM D F (tsetM D F T s x v).T s x v = tsetM D F T s x v := by
  unfold tsetM
  by_cases hb : x.bad = true
  · simp only [if_pos hb]
  · simp only [if_neg hb]
    by_cases ha : inA s.A (keyV x) = true
    · simp only [if_pos ha]
    · simp only [if_neg ha]
      by_cases hg : v.own.k ≠ 0 ∧ keyV x = intV (s.A.length + 1)
      · simp only [if_pos hg]
      · simp only [if_neg hg]
        unfold otherM
        by_cases hf : setF s.R x v = true
        · simp only [if_pos hf]
          by_cases hh : s.h = true
          · simp only [if_pos hh]
          · simp only [if_neg hh]
            by_cases hk : (keyV x).k = 3
            · simp only [if_pos hk]
              by_cases ho : (addM D F T s.i (keyV x).s).ok = true
              · simp only [if_pos ho, addM_twice hi]
              · simp only [if_neg ho]
            · simp only [if_neg hk]
        · simp only [if_neg hf]
/-- The same step on a table of the same contents answers the same. -/
theorem do_twice {D F : Int} {T : List Sh} {s : Tab} (hi : s.i < T.length) (x : OpT) : doAT D F (doTT D F T s x) s x = doAT D F T s x ∧ doST D F (doTT D F T s x) s x = doST D F T s x ∧ doTT D F (doTT D F T s x) s x = doTT D F T s x := by
  by_cases h : x.c = 1
  · have e : doTT D F T s x = (tsetM D F T s x.k x.v).T := by unfold doTT; rw [if_pos h]
    rw [e]
    refine ⟨?_, ?_, ?_⟩
    · unfold doAT; rw [if_pos h, if_pos h, tset_twice hi]
    · unfold doST; rw [if_pos h, if_pos h, tset_twice hi]
    · unfold doTT; rw [if_pos h, tset_twice hi]
  · have e : doTT D F T s x = T := by unfold doTT; rw [if_neg h]
    rw [e]
    exact ⟨rfl, rfl, e⟩
theorem TL.lti {w0 w : World} {Zp : Nat → Prop} {q : Option Addr} {D F : Int} {T : List Sh} {N i tb : Nat} {mp : Value} {s : Tab} {tabs : List T3} {L : List (Nat × TypeId × List Value)} (h : TL w0 w Zp q D F T N tabs L) (hi : tabs[i]? = some (tb, mp, s)) : s.i < T.length := by
  obtain ⟨B, X, h1, h2, h3, h4⟩ := h.at hi
  obtain ⟨h0, ⟨_, S, av, sv, h5, _⟩ | ⟨_, h5, _⟩⟩ := h2
  · exact h5.lti
  · rw [h5]; exact h1.wf.pos
/-! Shapes say nothing of what a table answers. -/
structure Alike (s t : Tab) : Prop where
  a : s.A = t.A
  r : s.R = t.R
theorem Alike.set {s t : Tab} (h : Alike s t) (D F D' F' : Int) (T T' : List Sh) (x v : Val) : (tsetM D F T s x v).fresh = (tsetM D' F' T' t x v).fresh ∧ (tsetM D F T s x v).e = (tsetM D' F' T' t x v).e ∧ Alike (tsetM D F T s x v).s (tsetM D' F' T' t x v).s := by
  obtain ⟨A, R, h1, i1⟩ := s
  obtain ⟨A', R', h2, i2⟩ := t
  obtain ⟨ha, hr⟩ := h
  have ha : A = A' := ha
  have hr : R = R' := hr
  subst ha hr
  unfold tsetM
  by_cases hb : x.bad = true
  · simp only [if_pos hb]; exact ⟨trivial, trivial, rfl, rfl⟩
  · simp only [if_neg hb]
    by_cases hi : inA A (keyV x) = true
    · simp only [if_pos hi]; exact ⟨trivial, trivial, rfl, rfl⟩
    · simp only [if_neg hi]
      by_cases hg : v.own.k ≠ 0 ∧ keyV x = intV (A.length + 1)
      · simp only [if_pos hg]; exact ⟨rfl, trivial, rfl, rfl⟩
      · simp only [if_neg hg]
        unfold otherM
        by_cases hf : setF R x v = true
        · simp only [if_pos hf]
          (repeat' split) <;> exact ⟨rfl, rfl, rfl, rfl⟩
        · simp only [if_neg hf]
          exact ⟨trivial, trivial, rfl, rfl⟩
theorem Alike.get {s t : Tab} (h : Alike s t) (x : Val) : tgetM s x = tgetM t x := by unfold tgetM; rw [h.a, h.r]
theorem Alike.next {s t : Tab} (h : Alike s t) (x : Val) : tnextM s x = tnextM t x := by unfold tnextM aboveM; rw [h.a, h.r]
theorem Alike.do {s t : Tab} (h : Alike s t) (D F D' F' : Int) (T T' : List Sh) (x : OpT) (hc : x.c ≤ 3) : doAT D F T s x = doAT D' F' T' t x ∧ Alike (doST D F T s x) (doST D' F' T' t x) := by
  unfold doAT doST
  by_cases h1 : x.c = 1
  · simp only [if_pos h1]
    obtain ⟨e1, e2, e3⟩ := h.set D F D' F' T T' x.k x.v
    exact ⟨by rw [e1, e2], e3⟩
  · simp only [if_neg h1]
    have h5 : ¬ x.c = 5 := by omega
    have h4 : ¬ x.c = 4 := by omega
    have h6 : ¬ x.c = 6 := by omega
    simp only [if_neg h5, if_neg h4, if_neg h6]
    refine ⟨?_, h⟩
    by_cases h2 : x.c = 2
    · simp only [if_pos h2, h.get]
    · simp only [if_neg h2]
      by_cases h3 : x.c = 3
      · simp only [if_pos h3, h.next]
      · simp only [if_neg h3]
theorem addM_none (F : Int) (z : ByteArray) : addM 0 F T0 (0 : Nat) z = ⟨0, false, T0⟩ := by
  unfold addM
  rw [if_neg (by decide)]
  show (if z ∈ ([] : List ByteArray) then _ else _) = _
  rw [if_neg (by simp)]
  have hk : kidFrom T0 0 ((0 : Nat) : Int) z = none := by
    show (if (-1 : Int) = ((0 : Nat) : Int) ∧ _ then _ else _) = _
    rw [if_neg (fun h => absurd h.1 (by decide))]
    rfl
  rw [hk]
  exact if_pos (Or.inl (by decide))
/-- A table without a tree never has a shape. -/
theorem noTree_set {s : Tab} (hi : s.i = 0) (F : Int) (x v : Val) : (tsetM 0 F T0 s x v).s.i = 0 ∧ (tsetM 0 F T0 s x v).T = T0 := by
  unfold tsetM
  by_cases hb : x.bad = true
  · simp only [if_pos hb]; exact ⟨hi, trivial⟩
  · simp only [if_neg hb]
    by_cases ha : inA s.A (keyV x) = true
    · simp only [if_pos ha]; exact ⟨hi, trivial⟩
    · simp only [if_neg ha]
      by_cases hg : v.own.k ≠ 0 ∧ keyV x = intV (s.A.length + 1)
      · simp only [if_pos hg]; exact ⟨hi, trivial⟩
      · simp only [if_neg hg]
        unfold otherM
        by_cases hf : setF s.R x v = true
        · simp only [if_pos hf]
          by_cases hh : s.h = true
          · simp only [if_pos hh]; exact ⟨hi, trivial⟩
          · simp only [if_neg hh]
            by_cases hk : (keyV x).k = 3
            · simp only [if_pos hk, hi, addM_none, if_neg Bool.false_ne_true]; exact ⟨trivial, trivial⟩
            · simp only [if_neg hk]; exact ⟨trivial, trivial⟩
        · simp only [if_neg hf]; exact ⟨hi, trivial⟩
theorem noTree_do {s : Tab} (hi : s.i = 0) (F : Int) (x : OpT) : (doST 0 F T0 s x).i = 0 ∧ doTT 0 F T0 s x = T0 := by
  unfold doST doTT
  by_cases h1 : x.c = 1
  · simp only [if_pos h1]; exact noTree_set hi F x.k x.v
  · simp only [if_neg h1]
    by_cases h5 : x.c = 5
    · simp only [if_pos h5]
      refine ⟨?_, trivial⟩
      unfold tputM
      split
      · exact hi
      · exact hi
    · simp only [if_neg h5]; exact ⟨hi, trivial⟩
end Go.Proofs.Ytmjfmfelbmbniaa
