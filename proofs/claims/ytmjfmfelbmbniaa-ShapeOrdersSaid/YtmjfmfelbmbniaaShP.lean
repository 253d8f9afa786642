/- Layer 12 without memory: the ways that keys lead through the shapes. -/
import Derived.Test.YtmjfmfelbmbniaaShM
namespace Go.Proofs.Ytmjfmfelbmbniaa.ShM
set_option linter.unusedVariables false
set_option linter.unusedSimpArgs false
def ksAt (T : List Sh) (i : Nat) : List ByteArray := (T.getD i ([], 0)).1
/-- Where keys lead from a shape on. -/
def walkM (T : List Sh) : Nat → List ByteArray → Option Nat
  | a, [] => some a
  | a, z :: r => match kidFrom T 0 a z with
    | some j => walkM T j r
    | none => none
theorem walkM_append (T : List Sh) (a : Nat) (xs ys : List ByteArray) : walkM T a (xs ++ ys) = (match walkM T a xs with | some b => walkM T b ys | none => none) := by
  induction xs generalizing a with
  | nil => rfl
  | cons z r ih =>
    simp only [List.cons_append, walkM]
    cases kidFrom T 0 a z with
    | none => rfl
    | some j => exact ih j
theorem kidFrom_ext {T : List Sh} (U : List Sh) {i : Int} {z : ByteArray} {j n : Nat} (h : kidFrom T j i z = some n) : kidFrom (T ++ U) j i z = some n := by
  rw [kidFrom_append, h]
theorem walkM_ext {T : List Sh} (U : List Sh) {a b : Nat} {ks : List ByteArray} (h : walkM T a ks = some b) : walkM (T ++ U) a ks = some b := by
  induction ks generalizing a with
  | nil => exact h
  | cons z r ih =>
    simp only [walkM] at h ⊢
    cases hk : kidFrom T 0 a z with
    | none => rw [hk] at h; cases h
    | some j => rw [hk] at h; rw [kidFrom_ext U hk]; exact ih h
theorem WF.kid {deep : Int} {T : List Sh} (h : WF deep T) {a n : Nat} {z : ByteArray} (hk : kidFrom T 0 a z = some n) : n < T.length ∧ ksAt T n = ksAt T a ++ [z] ∧ z ∉ ksAt T a := by
  obtain ⟨_, x, hx, hp, hl⟩ := kidFrom_spec hk
  rw [Nat.sub_zero] at hx
  have hn : n < T.length := (List.getElem?_eq_some_iff.1 hx).1
  have e : T.getD n ([], 0) = x := by simp [List.getD, hx]
  obtain ⟨z', hz, hks⟩ := h.path n hn a (by rw [e]; exact hp)
  rw [e] at hks
  rw [hks] at hl
  have hzz : z' = z := by simpa using hl
  subst hzz
  exact ⟨hn, by unfold ksAt; rw [e]; exact hks, hz⟩
theorem WF.walk {deep : Int} {T : List Sh} (h : WF deep T) : ∀ {ks : List ByteArray} {a b : Nat}, a < T.length → walkM T a ks = some b → b < T.length ∧ ksAt T b = ksAt T a ++ ks
  | [], a, b, ha, hw => by cases hw; exact ⟨ha, by simp⟩
  | z :: r, a, b, ha, hw => by
    simp only [walkM] at hw
    cases hk : kidFrom T 0 a z with
    | none => rw [hk] at hw; cases hw
    | some j =>
      rw [hk] at hw
      obtain ⟨h1, h2, _⟩ := h.kid hk
      obtain ⟨h3, h4⟩ := h.walk h1 hw
      exact ⟨h3, by rw [h4, h2]; simp⟩
theorem WF.walk0 {deep : Int} {T : List Sh} (h : WF deep T) {ks : List ByteArray} {b : Nat} (hw : walkM T 0 ks = some b) : b < T.length ∧ ksAt T b = ks := by
  obtain ⟨h1, h2⟩ := h.walk h.pos hw
  have hr : ksAt T 0 = [] := h.root
  exact ⟨h1, by rw [h2, hr]; simp⟩
/-- A key that was added leads there. -/
theorem addM_kid {deep fan : Int} {T : List Sh} {a : Nat} {z : ByteArray} (hok : (addM deep fan T a z).ok = true) : ∃ n : Nat, (addM deep fan T a z).r = n ∧ kidFrom (addM deep fan T a z).T 0 a z = some n := by
  unfold addM at hok ⊢
  split
  · rename_i h; rw [if_pos h] at hok; cases hok
  · rename_i h
    rw [if_neg h] at hok
    dsimp only at hok ⊢
    split
    · rename_i h2; rw [if_pos h2] at hok; cases hok
    · rename_i h2
      rw [if_neg h2] at hok
      split
      · rename_i j hj; exact ⟨j, rfl, hj⟩
      · rename_i hj
        rw [hj] at hok
        dsimp only at hok
        split
        · rename_i h3; rw [if_pos h3] at hok; cases hok
        · refine ⟨T.length, rfl, ?_⟩
          rw [kidFrom_append, hj]
          simp [kidFrom]
/-- A key that leads somewhere already. -/
theorem addM_there {deep fan : Int} {T : List Sh} (hT : WF deep T) {a n : Nat} {z : ByteArray} (ha : a < T.length) (hk : kidFrom T 0 a z = some n) : addM deep fan T a z = ⟨n, true, T⟩ := by
  obtain ⟨_, _, hz⟩ := hT.kid hk
  unfold addM
  rw [if_neg (by omega)]
  dsimp only
  rw [if_neg (by rw [Int.toNat_natCast]; exact hz), hk]
theorem walkM_snoc {T : List Sh} {a b n : Nat} {ks : List ByteArray} {z : ByteArray} (h : walkM T a ks = some b) (hk : kidFrom T 0 b z = some n) : walkM T a (ks ++ [z]) = some n := by
  rw [walkM_append, h]
  simp only [walkM, hk]
/-- The step behind a part of the way. -/
theorem walkM_at {T : List Sh} {b : Nat} {ks : List ByteArray} (h : walkM T 0 ks = some b) (j : Nat) (hj : j < ks.length) {c : Nat} (hc : walkM T 0 (ks.take j) = some c) : ∃ n, kidFrom T 0 c ks[j] = some n ∧ walkM T 0 (ks.take (j + 1)) = some n := by
  have e : ks = ks.take j ++ (ks[j] :: ks.drop (j + 1)) := by rw [← List.drop_eq_getElem_cons hj, List.take_append_drop]
  rw [e, walkM_append, hc] at h
  simp only [walkM] at h
  cases hk : kidFrom T 0 c ks[j] with
  | none => rw [hk] at h; cases h
  | some n =>
    refine ⟨n, rfl, ?_⟩
    rw [List.take_succ_eq_append_getElem hj]
    exact walkM_snoc hc hk
theorem addM_extT (deep fan : Int) (T : List Sh) (i : Int) (z : ByteArray) : ∃ U, (addM deep fan T i z).T = T ++ U := by
  unfold addM
  split
  · exact ⟨[], by simp⟩
  · dsimp only
    split
    · exact ⟨[], by simp⟩
    · split
      · exact ⟨[], by simp⟩
      · split
        · exact ⟨[], by simp⟩
        · exact ⟨_, rfl⟩
/-- The way goes on by a key that was added. -/
theorem walk_add {deep fan : Int} {T : List Sh} {b : Nat} {ks : List ByteArray} {z : ByteArray} (h : walkM T 0 ks = some b) (hok : (addM deep fan T b z).ok = true) :
    ∃ n : Nat, (addM deep fan T b z).r = n ∧ walkM (addM deep fan T b z).T 0 (ks ++ [z]) = some n := by
  obtain ⟨n, h1, h2⟩ := addM_kid hok
  obtain ⟨U, hU⟩ := addM_extT deep fan T b z
  refine ⟨n, h1, walkM_snoc ?_ h2⟩
  rw [hU]; exact walkM_ext U h
theorem WF.nodup_at {deep : Int} {T : List Sh} (h : WF deep T) {b : Nat} {ks : List ByteArray} (hw : walkM T 0 ks = some b) : ks.Nodup := by
  obtain ⟨h1, h2⟩ := h.walk0 hw
  rw [← h2]; exact h.nodup b h1
theorem marksOf_same {names a b : List ByteArray} (h : ∀ m, m ∈ a ↔ m ∈ b) : marksOf names a = marksOf names b := by
  unfold marksOf
  apply bitsOf_congr
  intro m _
  simp [h m]
theorem same_set {a b : List ByteArray} (ha : a.Nodup) (hb : b.Nodup) (hl : a.length = b.length) (hs : ∀ m ∈ a, m ∈ b) : ∀ m, m ∈ a ↔ m ∈ b := by
  induction a generalizing b with
  | nil =>
    have : b = [] := List.eq_nil_of_length_eq_zero (by simpa using hl.symm)
    subst this; simp
  | cons x r ih =>
    obtain ⟨s, t, rfl⟩ := List.append_of_mem (hs x (by simp))
    have hn := List.nodup_cons.1 ha
    have hb2 : (s ++ t).Nodup ∧ x ∉ s ++ t := by
      have h1 : (x :: (s ++ t)).Nodup := (List.perm_middle (a := x) (l₁ := s) (l₂ := t)).nodup_iff.1 hb
      exact ⟨(List.nodup_cons.1 h1).2, (List.nodup_cons.1 h1).1⟩
    have hi := ih hn.2 hb2.1 (by simp at hl ⊢; omega) (fun m hm => by
      have h1 := hs m (by simp [hm])
      have h2 : m ≠ x := fun e => hn.1 (e ▸ hm)
      simp only [List.mem_append, List.mem_cons] at h1 ⊢
      rcases h1 with h | h | h
      · exact .inl h
      · exact absurd h h2
      · exact .inr h)
    intro m
    simp only [List.mem_cons, List.mem_append]
    rw [hi m]
    simp only [List.mem_append]
    constructor
    · rintro (h | h | h)
      · exact .inr (.inl h)
      · exact .inl h
      · exact .inr (.inr h)
    · rintro (h | h | h)
      · exact .inr (.inl h)
      · exact .inl h
      · exact .inr (.inr h)
end Go.Proofs.Ytmjfmfelbmbniaa.ShM
