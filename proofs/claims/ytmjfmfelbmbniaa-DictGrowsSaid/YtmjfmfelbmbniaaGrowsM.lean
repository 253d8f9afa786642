/- Layer 13: so many keys of two kinds. Plain lemmas. -/
import Derived.Test.YtmjfmfelbmbniaaKeepsM
import Derived.Test.YtmjfmfelbmbniaaDig
namespace Go.Proofs.Ytmjfmfelbmbniaa
open Go.RowKit Go.Maps HK ShM
set_option linter.unusedVariables false
set_option linter.unusedSimpArgs false
def kf (i : Nat) : Val := if i % 2 = 1 then ⟨3, 0, digS (i * 7)⟩ else ⟨2, (i : Int) * 7, Val.e⟩
def vf (i : Nat) : Val := ⟨2, i, Val.e⟩
def pf (i : Nat) : Val × Val := (kf i, vf i)
theorem kf_inj {i j : Nat} (h : kf i = kf j) : i = j := by
  unfold kf at h
  split at h <;> split at h
  · have h1 : digS (i * 7) = digS (j * 7) := by simpa using h
    have := digS_inj h1; omega
  · have := congrArg Val.k h; cases this
  · have := congrArg Val.k h; cases this
  · have := congrArg Val.n h; dsimp only at this; omega
theorem kf_good (i : Nat) : (kf i).bad = false ∧ keyV (kf i) = kf i := by
  have hb : (kf i).bad = false := by unfold kf; split <;> simp [Val.bad, Val.strange]
  refine ⟨hb, ?_⟩
  rw [keyV_own hb]
  unfold kf
  split <;> simp [Val.own]
theorem kf_size (i : Nat) (h : i ≤ 100000) : (kf i).s.size ≤ maxLen := by
  have hm : maxLen = 9223372036854775807 := rfl
  unfold kf
  split
  · have := digS_size (i * 7); dsimp only; omega
  · exact Nat.zero_le _
theorem vf_own (i : Nat) : (vf i).own = vf i := by simp [vf, Val.own]
theorem getA_pf {l : List Nat} {i : Nat} : getA (l.map pf) (kf i) = if i ∈ l then some (vf i) else none := by
  induction l with
  | nil => rfl
  | cons x r ih =>
    unfold getA at ih ⊢
    rw [List.map_cons, List.find?_cons]
    by_cases h : x = i
    · subst h; simp [pf]
    · have h2 : ¬ (pf x).1 = kf i := fun e => h (kf_inj e)
      simp only [h2, decide_false]
      rw [ih]
      have h3 : ¬ i = x := fun e => h e.symm
      simp [h3]
theorem getA_neg {l : List Nat} : getA (l.map pf) ⟨2, -1, Val.e⟩ = none := by
  induction l with
  | nil => rfl
  | cons x r ih =>
    unfold getA at ih ⊢
    rw [List.map_cons, List.find?_cons]
    have h2 : ¬ (pf x).1 = ⟨2, -1, Val.e⟩ := fun e => by
      unfold pf kf at e
      dsimp only at e
      split at e
      · have := congrArg Val.k e; cases this
      · have := congrArg Val.n e; dsimp only at this; omega
    simp only [h2, decide_false]
    exact ih
theorem set_pf (i : Nat) : setL ((List.range i).map pf) (kf i) (vf i) = (List.range (i + 1)).map pf ∧ setF ((List.range i).map pf) (kf i) (vf i) = true ∧ keyE (kf i) = 0 := by
  obtain ⟨h1, h2⟩ := kf_good i
  have h3 : getA ((List.range i).map pf) (kf i) = none := by rw [getA_pf, if_neg (by simp)]
  refine ⟨?_, ?_, ?_⟩
  · unfold setL
    rw [h1, h2, h3, vf_own, if_neg (by decide)]
    dsimp only
    rw [if_neg (by simp [vf]), List.range_succ, List.map_append]
    rfl
  · unfold setF
    rw [h1, h2, h3, vf_own]
    simp [vf]
  · unfold keyE; rw [h1]; rfl
theorem liveL_pf (l : List Nat) : liveL (l.map pf) = l.length := by
  unfold liveL
  rw [List.countP_map, List.countP_eq_length.2]
  intro x hx
  simp [pf, vf]
theorem get_pf {l : List Nat} {i : Nat} (h : i ∈ l) : getV (l.map pf) (kf i) = vf i ∧ hasK (l.map pf) (kf i) = true := by
  obtain ⟨h1, h2⟩ := kf_good i
  unfold getV hasK
  rw [h1, h2, getA_pf, if_pos h]
  exact ⟨rfl, rfl⟩
theorem has_pf {l : List Nat} {i : Nat} (h : i ∉ l) : hasK (l.map pf) (kf i) = false := by
  obtain ⟨h1, h2⟩ := kf_good i
  unfold hasK
  rw [h1, h2, getA_pf, if_neg h]
  rfl
theorem drop_pf (l : List Nat) (i : Nat) : dropA (l.map pf) (keyV (kf i)) = (l.filter (fun j => decide (j ≠ i))).map pf := by
  rw [(kf_good i).2]
  unfold dropA
  rw [List.filter_map]
  congr 1
  apply List.filter_congr
  intro x _
  simp only [Function.comp, pf]
  by_cases h : x = i
  · subst h; simp
  · have h2 : ¬ kf x = kf i := fun e => h (kf_inj e)
    simp [h, h2]
/-- What is left when the places before i have been looked at. -/
def lf (all step i : Nat) : List Nat := (List.range all).filter (fun j => decide (i ≤ j ∨ j % step = 0))
theorem lf_zero (all step : Nat) : lf all step 0 = List.range all := by
  unfold lf; rw [List.filter_eq_self.2]; intro x _; simp
theorem lf_mem {all step i : Nat} (h : i < all) : i ∈ lf all step i := by unfold lf; simp [h]
theorem lf_keep {all step i : Nat} (h : i % step = 0) : lf all step (i + 1) = lf all step i := by
  unfold lf
  apply List.filter_congr
  intro x _
  by_cases e : x = i
  · subst e; simp [h]
  · have : (i + 1 ≤ x) ↔ (i ≤ x) := by omega
    simp [this]
theorem lf_drop {all step i : Nat} (h : i % step ≠ 0) : (lf all step i).filter (fun j => decide (j ≠ i)) = lf all step (i + 1) := by
  unfold lf
  rw [List.filter_filter]
  apply List.filter_congr
  intro x _
  by_cases e : x = i
  · subst e; simp [h]
  · have : (i + 1 ≤ x) ↔ (i ≤ x) := by omega
    simp [this, e]
theorem lf_gone {all step i : Nat} (h : i % step ≠ 0) : i ∉ lf all step (i + 1) := by unfold lf; simp [h]
def leftN (step i : Nat) : Nat := ((List.range i).filter (fun j => decide (j % step = 0))).length
theorem leftN_succ (step i : Nat) : leftN step (i + 1) = leftN step i + if i % step = 0 then 1 else 0 := by
  unfold leftN
  rw [List.range_succ, List.filter_append, List.length_append]
  by_cases h : i % step = 0 <;> simp [h]
theorem leftN_le (step i : Nat) : leftN step i ≤ i := by
  unfold leftN
  have := List.length_filter_le (fun j => decide (j % step = 0)) (List.range i)
  simpa using this
theorem lf_end (all step : Nat) : lf all step all = (List.range all).filter (fun j => decide (j % step = 0)) := by
  unfold lf
  apply List.filter_congr
  intro x hx
  have := List.mem_range.1 hx
  have h2 : ¬ all ≤ x := by omega
  simp [h2]
theorem lf_len (all step : Nat) : (lf all step all).length = leftN step all := by rw [lf_end]; rfl
theorem firstLive_pf (l : List Nat) : firstLive (l.map pf) = (l.head?.map pf).getD (Val.nil, Val.nil) := by
  cases l with
  | nil => rfl
  | cons x r => simp [firstLive, pf, vf]
theorem behind_pf {l : List Nat} {i : Nat} (hl : l.Pairwise (· < ·)) (hi : i ∈ l) : behind (l.map pf) (kf i) = (l.filter (fun j => decide (i < j))).map pf := by
  induction l with
  | nil => cases hi
  | cons x r ih =>
    have hp := List.pairwise_cons.1 hl
    unfold behind at ih ⊢
    rw [List.map_cons]
    by_cases h : x = i
    · subst h
      rw [List.dropWhile_cons_of_neg (by simp [pf]), List.drop_one, List.tail_cons, List.filter_cons_of_neg (by simp), List.filter_eq_self.2]
      intro y hy
      have := hp.1 y hy
      simpa using this
    · have h2 : (pf x).1 ≠ kf i := fun e => h (kf_inj e)
      have hir : i ∈ r := by
        rcases List.mem_cons.1 hi with e | e
        · exact absurd e.symm h
        · exact e
      have hxi := hp.1 i hir
      rw [List.dropWhile_cons_of_pos (by simpa using h2), ih hp.2 hir, List.filter_cons_of_neg (by simp; omega)]
theorem next_first {all step : Nat} (h : 0 < all) : nextM ((lf all step all).map pf) Val.nil = (pf 0, 0) := by
  unfold nextM
  rw [if_pos rfl, lf_end, firstLive_pf, List.head?_filter]
  have hf : (List.range all).find? (fun j => decide (j % step = 0)) = some 0 := List.find?_range_eq_some.2 ⟨by simp, by simpa using h, fun j hj => by omega⟩
  rw [hf]
  rfl
theorem next_pf {all step i : Nat} (hs : 2 ≤ step) (hi : i % step = 0) (h : i + step < all) : nextM ((lf all step all).map pf) (kf i) = (pf (i + step), 0) := by
  obtain ⟨h1, h2⟩ := kf_good i
  have hm : i ∈ lf all step all := by rw [lf_end]; simp [hi]; omega
  have hk : (kf i).k ≠ 0 := fun e => by
    unfold Val.bad at h1
    rw [e] at h1
    simp at h1
  unfold nextM
  rw [if_neg hk, (get_pf hm).2, if_pos rfl, h2, behind_pf (by rw [lf_end]; exact List.Pairwise.filter _ List.pairwise_lt_range) hm, firstLive_pf, lf_end, List.filter_filter, List.head?_filter]
  have hst : (i + step) % step = 0 := by rw [Nat.add_mod_right]; exact hi
  have hf : (List.range all).find? (fun j => decide (i < j) && decide (j % step = 0)) = some (i + step) := List.find?_range_eq_some.2 ⟨by simp [hst]; omega, by simpa using h, fun j hj => by
    by_cases hij : i < j
    · have hne : j % step ≠ 0 := fun e => by
        obtain ⟨a, ha⟩ := Nat.dvd_of_mod_eq_zero hi
        obtain ⟨b, hb⟩ := Nat.dvd_of_mod_eq_zero e
        have h5 : step * a < step * b := by omega
        have h6 : a < b := Nat.lt_of_mul_lt_mul_left h5
        have h7 : step * (a + 1) ≤ step * b := Nat.mul_le_mul_left _ h6
        rw [Nat.mul_add, Nat.mul_one] at h7
        omega
      simp [hne]
    · simp [hij]⟩
  rw [hf]
  rfl
/-- Where the walk stands ahead of place i. -/
def atf (step i : Nat) : Val := if i = 0 then Val.nil else kf (i - step)
theorem atf_size (step i : Nat) (h : i ≤ 100000) : (atf step i).s.size ≤ maxLen := by
  unfold atf
  split
  · exact Nat.zero_le _
  · exact kf_size _ (by omega)
theorem next_atf {all step i : Nat} (hs : 2 ≤ step) (hi : i % step = 0) (h : i < all) : nextM ((lf all step all).map pf) (atf step i) = ((kf i, vf i), 0) := by
  unfold atf
  by_cases h0 : i = 0
  · subst h0; rw [if_pos rfl]; exact next_first h
  · rw [if_neg h0]
    have hle : step ≤ i := Nat.le_of_dvd (by omega) (Nat.dvd_of_mod_eq_zero hi)
    have := next_pf (all := all) hs (i := i - step) (by rw [← Nat.mod_eq_sub_mod hle]; exact hi) (by omega)
    rw [this, show i - step + step = i by omega]
    rfl
theorem has_neg {l : List Nat} : hasK (l.map pf) ⟨2, -1, Val.e⟩ = false := by
  unfold hasK
  rw [show keyV ⟨2, -1, Val.e⟩ = ⟨2, -1, Val.e⟩ by decide, getA_neg]
  simp
end Go.Proofs.Ytmjfmfelbmbniaa
