/- Layer 14: TabSlots without the program. -/
import Derived.Test.YtmjfmfelbmbniaaBE
namespace Go.Proofs.Ytmjfmfelbmbniaa
open Go.RowKit Go.Maps HK ShM
set_option linter.unusedVariables false
set_option linter.unusedSimpArgs false
/-- A table of strings over a tree in which its shape is the last one, and nobody's parent. -/
structure SlI (T : List Sh) (s : Tab) (m : Nat) : Prop where
  a : s.A = []
  h : s.h = false
  i : T.length = s.i + 1
  n : T.length ≤ m + 1
  par : ∀ x ∈ T, x.2 < s.i
  ks : keysOf s.R = (ksOf T s.i).map strV
  nd : (ksOf T s.i).Nodup
  len : (ksOf T s.i).length ≤ m
  sz : ∀ k ∈ ksOf T s.i, k.size ≤ 1000
theorem SlI.start : SlI T0 ⟨[], [], false, 0⟩ 0 := by
  refine ⟨rfl, rfl, rfl, Nat.le_refl _, fun x hx => ?_, rfl, List.nodup_nil, Nat.le_refl _, fun k hk => by cases hk⟩
  have : x = ([], -1) := by simpa [T0] using hx
  subst this
  decide
theorem mem_strV {l : List ByteArray} {z : ByteArray} : strV z ∈ l.map strV ↔ z ∈ l := by
  constructor
  · intro h
    obtain ⟨y, hy, he⟩ := List.mem_map.1 h
    cases he
    exact hy
  · exact fun h => List.mem_map_of_mem h
theorem getA_isNone {L : Pairs} {k : Val} : (getA L k).isNone = true ↔ k ∉ keysOf L := by
  constructor
  · intro h hk
    obtain ⟨p, hp, he⟩ := List.mem_map.1 hk
    unfold getA at h
    cases hf : L.find? (fun x => decide (x.1 = k)) with
    | some q => rw [hf] at h; cases h
    | none => exact absurd (List.find?_eq_none.1 hf p hp) (by simp [he])
  · intro h
    rw [getA_none (fun p hp e => h (by rw [← e]; exact List.mem_map_of_mem hp))]
    rfl
theorem SlI.fset {T : List Sh} {s : Tab} {m : Nat} (h : SlI T s m) (z : ByteArray) (n : Int) : setF s.R (strV z) (intV n) = decide (z ∉ ksOf T s.i) := by
  have h1 : setF s.R (strV z) (intV n) = (getA s.R (strV z)).isNone := by
    show (!(strV z).bad && (getA s.R (keyV (strV z))).isNone && !decide ((intV n).own.k = 0)) = _
    rw [(strV_key z).1, (strV_key z).2]
    show (true && _ && true) = _
    simp
  rw [h1]
  by_cases hz : z ∈ ksOf T s.i
  · rw [decide_eq_false (fun h => h hz)]
    have : ¬ ((getA s.R (strV z)).isNone = true) := by
      rw [getA_isNone, h.ks, mem_strV]
      exact fun h => h hz
    cases hg : getA s.R (strV z) with
    | none => rw [hg] at this; exact absurd rfl this
    | some v => rfl
  · rw [decide_eq_true hz, getA_isNone, h.ks, mem_strV]
    exact hz
theorem tset_str {D F : Int} {T : List Sh} {s : Tab} (ha : s.A = []) (z : ByteArray) (n : Int) : tsetM D F T s (strV z) (intV n) = otherM D F T s (strV z) (intV n) := by
  unfold tsetM
  rw [(strV_key z).2, if_neg (by decide), (strV_key z).1]
  have h1 : inA s.A (strV z) = false := rfl
  rw [h1, if_neg (by decide), if_neg]
  rintro ⟨_, h2⟩
  have h3 : (3 : Int) = 2 := congrArg Val.k h2
  exact absurd h3 (by decide)
theorem SlI.step {T : List Sh} {s : Tab} {m : Nat} (h : SlI T s m) (hm : m < 64) (z : ByteArray) (hzs : z.size ≤ 1000) (n : Int) :
    ∃ f s' T', tsetM 64 64 T s (strV z) (intV n) = ⟨f, 0, s', T'⟩ ∧ tsetM 64 64 T' s (strV z) (intV n) = ⟨f, 0, s', T'⟩ ∧ SlI T' s' (m + 1) := by
  have hf := h.fset z n
  rw [tset_str h.a]
  by_cases hz : z ∈ ksOf T s.i
  · have hf0 : Go.Proofs.Ytmjfmfelbmbniaa.setF s.R (strV z) (intV n) = false := by rw [hf]; exact decide_eq_false (fun h => h hz)
    have ho : otherM 64 64 T s (strV z) (intV n) = ⟨0, 0, { s with R := setL s.R (strV z) (intV n) }, T⟩ := by unfold otherM; rw [hf0]; rfl
    refine ⟨0, _, T, ho, by rw [tset_str h.a]; exact ho, ⟨h.a, h.h, h.i, by have := h.n; omega, h.par, ?_, h.nd, Nat.le_succ_of_le h.len, h.sz⟩⟩
    show keysOf (setL s.R (strV z) (intV n)) = _
    rw [keys_set, hf0]
    exact h.ks
  · have hf1 : Go.Proofs.Ytmjfmfelbmbniaa.setF s.R (strV z) (intV n) = true := by rw [hf]; exact decide_eq_true hz
    have hkid : kidFrom T 0 s.i z = none := kidFrom_none_of (fun x hx => by have := h.par x hx; omega) z
    have hcnt : kidCount T s.i = 0 := kidCount_none (fun x hx => by have := h.par x hx; omega)
    have hi := h.i
    have hn := h.n
    have hl := h.len
    have hr : ¬ ((s.i : Int) < 0 ∨ (T.length : Int) ≤ (s.i : Int)) := by omega
    have hz' : z ∉ (T.getD (s.i : Int).toNat ([], 0)).1 := hz
    have hadd : addM 64 64 T s.i z = ⟨T.length, true, T ++ [(ksOf T s.i ++ [z], (s.i : Int))]⟩ := by
      unfold addM
      rw [if_neg hr]
      show (if z ∈ ksOf T s.i then _ else _) = _
      rw [if_neg hz, hkid]
      show (if (64 : Int) ≤ (ksOf T s.i).length ∨ (64 : Int) ≤ (kidCount T s.i : Nat) ∨ 4096 ≤ T.length then _ else _) = _
      rw [hcnt, if_neg (by omega)]
      rfl
    have hk1 : ksOf (T ++ [(ksOf T s.i ++ [z], (s.i : Int))]) s.i = ksOf T s.i := by
      show ((T ++ _).getD s.i ([], 0)).1 = _
      rw [getD_append_left (by omega)]
    have hk2 : ksOf (T ++ [(ksOf T s.i ++ [z], (s.i : Int))]) T.length = ksOf T s.i ++ [z] := by
      show ((T ++ _).getD T.length ([], 0)).1 = _
      rw [show (T ++ [(ksOf T s.i ++ [z], (s.i : Int))]).getD T.length ([], 0) = (ksOf T s.i ++ [z], (s.i : Int)) from ShM.getD_snoc T _ _]
    have hadd2 : addM 64 64 (T ++ [(ksOf T s.i ++ [z], (s.i : Int))]) s.i z = ⟨T.length, true, T ++ [(ksOf T s.i ++ [z], (s.i : Int))]⟩ := by
      unfold addM
      rw [if_neg (by rw [List.length_append]; omega)]
      show (if z ∈ ksOf (T ++ [(ksOf T s.i ++ [z], (s.i : Int))]) s.i then _ else _) = _
      rw [hk1, if_neg hz, kidFrom_append, hkid]
      show (match kidFrom [(ksOf T s.i ++ [z], (s.i : Int))] (0 + T.length) s.i z with | some j => _ | none => _) = _
      have : kidFrom [(ksOf T s.i ++ [z], (s.i : Int))] (0 + T.length) s.i z = some T.length := by
        unfold kidFrom
        rw [if_pos ⟨rfl, by simp⟩, Nat.zero_add]
      rw [this]
    have ho : ∀ U : List Sh, addM 64 64 U s.i z = ⟨T.length, true, T ++ [(ksOf T s.i ++ [z], (s.i : Int))]⟩ → otherM 64 64 U s (strV z) (intV n) = ⟨1, 0, { s with R := setL s.R (strV z) (intV n), i := T.length }, T ++ [(ksOf T s.i ++ [z], (s.i : Int))]⟩ := by
      intro U hU
      unfold otherM
      rw [hf1, if_pos rfl, h.h, if_neg (by decide), (strV_key z).1, if_pos rfl]
      show (if (addM 64 64 U s.i z).ok then _ else _) = _
      rw [hU, if_pos rfl]
      rfl
    refine ⟨1, _, _, ho T hadd, by rw [tset_str h.a]; exact ho _ hadd2, ⟨h.a, h.h, ?_, ?_, fun x hx => ?_, ?_, ?_, ?_, fun k hk => ?_⟩⟩
    · show (T ++ _).length = T.length + 1
      rw [List.length_append]; rfl
    · rw [List.length_append]; show T.length + 1 ≤ _; omega
    · show x.2 < (T.length : Nat)
      rcases List.mem_append.1 hx with hx | hx
      · have := h.par x hx; omega
      · rw [List.mem_singleton] at hx; subst hx; show (s.i : Int) < _; omega
    · show keysOf (setL s.R (strV z) (intV n)) = (ksOf _ T.length).map strV
      rw [keys_set, hf1, if_pos rfl, hk2, h.ks, (strV_key z).1, List.map_append]
      rfl
    · show (ksOf _ T.length).Nodup
      rw [hk2]
      exact List.nodup_append.2 ⟨h.nd, List.Pairwise.cons (by simp) List.Pairwise.nil, fun a ha b hb => by rw [List.mem_singleton] at hb; subst hb; exact fun e => hz (e ▸ ha)⟩
    · show (ksOf _ T.length).length ≤ m + 1
      rw [hk2, List.length_append]; show _ + 1 ≤ _; omega
    · have hk : k ∈ ksOf _ T.length := hk
      rw [hk2] at hk
      rcases List.mem_append.1 hk with hk | hk
      · exact h.sz k hk
      · rw [List.mem_singleton] at hk; subst hk; exact hzs
/-! What the law asks behind it. -/
section
variable {T : List Sh} {s : Tab} {m : Nat}
theorem SlI.kys (h : SlI T s m) : Go.Proofs.Ytmjfmfelbmbniaa.keysM T s.i = ksOf T s.i := by
  unfold Go.Proofs.Ytmjfmfelbmbniaa.keysM
  rw [if_neg (by have := h.i; omega)]
  rfl
theorem SlI.rlen (h : SlI T s m) : s.R.length = (ksOf T s.i).length := by rw [← keysOf_len, h.ks, List.length_map]
theorem SlI.slot (h : SlI T s m) {j : Nat} {k : ByteArray} (hj : (ksOf T s.i)[j]? = some k) : slotM T s.i k = some j := by
  unfold slotM
  rw [if_neg (by have := h.i; omega)]
  exact slotOf_at h.nd hj
theorem SlI.key (h : SlI T s m) {j : Nat} {k : ByteArray} (hj : (ksOf T s.i)[j]? = some k) : ∃ v, s.R[j]? = some (strV k, v) := by
  have h1 : (keysOf s.R)[j]? = some (strV k) := by rw [h.ks, List.getElem?_map, hj]; rfl
  unfold keysOf at h1
  rw [List.getElem?_map] at h1
  obtain ⟨p, hp, he⟩ := Option.map_eq_some_iff.1 h1
  exact ⟨p.2, by rw [hp, ← he]⟩
theorem SlI.nodup (h : SlI T s m) : (keysOf s.R).Nodup := by
  rw [h.ks]
  exact List.Pairwise.map _ (fun a b h e => h (by cases e; rfl)) h.nd
theorem tget_str {s : Tab} (k : ByteArray) : tgetM s (strV k) = (getA s.R (strV k)).getD Val.nil := by
  unfold tgetM
  have h1 : inA s.A (strV k) = false := rfl
  rw [h1, if_neg (by decide)]
  unfold getV
  rw [(strV_key k).1, (strV_key k).2]
  rfl
theorem SlI.at (h : SlI T s m) {j : Nat} {k : ByteArray} (hj : (ksOf T s.i)[j]? = some k) : tatM s j = tgetM s (strV k) := by
  obtain ⟨v, hv⟩ := h.key hj
  have hl := (List.getElem?_eq_some_iff.1 hv).1
  have h1 := getA_mem h.nodup (List.mem_of_getElem? hv)
  rw [tget_str, h1]
  unfold tatM hasS
  rw [h.h, decide_eq_true (by omega), decide_eq_true (by omega)]
  show ((s.R[(j : Int).toNat]?).map (·.2)).getD Val.nil = v
  rw [show (j : Int).toNat = j by omega, hv]
  rfl
theorem SlI.has (h : SlI T s m) (n : Int) : hasS s n = (decide (0 ≤ n) && decide (n < ((ksOf T s.i).length : Int))) := by
  unfold hasS
  rw [h.h, h.rlen]
  simp
theorem SlI.put (h : SlI T s m) {j : Nat} {k : ByteArray} (hj : (ksOf T s.i)[j]? = some k) (v : Val) : tgetM (tputM s j v) (strV k) = v.own ∧ tatM (tputM s j v) j = v.own := by
  obtain ⟨u, hu⟩ := h.key hj
  have hl := (List.getElem?_eq_some_iff.1 hu).1
  have hs : hasS s j = true := by
    rw [h.has, decide_eq_true (by omega), decide_eq_true (by rw [← h.rlen]; omega)]
    rfl
  have hp : tputM s j v = { s with R := s.R.set j (strV k, v.own) } := by
    unfold tputM
    rw [hs, if_pos rfl, show (j : Int).toNat = j by omega, hu]
    rfl
  rw [hp]
  have hk : keysOf (s.R.set j (strV k, v.own)) = keysOf s.R := by
    unfold keysOf
    rw [List.map_set]
    apply List.ext_getElem?
    intro i
    by_cases e : j = i
    · subst e
      rw [List.getElem?_set_self (by rw [List.length_map]; exact hl), List.getElem?_map, hu]
      rfl
    · rw [List.getElem?_set_ne e]
  have hg : (s.R.set j (strV k, v.own))[j]? = some (strV k, v.own) := List.getElem?_set_self hl
  constructor
  · rw [tget_str]
    show (getA (s.R.set j (strV k, v.own)) (strV k)).getD Val.nil = _
    rw [getA_mem (by rw [hk]; exact h.nodup) (List.mem_of_getElem? hg)]
    rfl
  · unfold tatM
    have : hasS { s with R := s.R.set j (strV k, v.own) } j = true := by
      rw [← hs]
      unfold hasS
      show (!s.h && _ && decide (_ < ((s.R.set j (strV k, v.own)).length : Int))) = _
      rw [List.length_set]
    rw [this, if_pos rfl]
    show (((s.R.set j (strV k, v.own))[(j : Int).toNat]?).map (·.2)).getD Val.nil = _
    rw [show (j : Int).toNat = j by omega, hg]
    rfl
end
end Go.Proofs.Ytmjfmfelbmbniaa
