/- Layer 12 without memory: shapes as a list of their keys and parents; what adding a key does; which of the noted names a list of keys has. -/
import Derived.WalkKit
namespace Go.Proofs.Ytmjfmfelbmbniaa.ShM
set_option linter.unusedVariables false
set_option linter.unusedSimpArgs false
instance memBytes (m : ByteArray) (l : List ByteArray) : Decidable (m ∈ l) := @List.instDecidableMemOfLawfulBEq ByteArray instBEqOfDecidableEq inferInstance m l
/-- A shape: its keys, and its parent's number (the first one's: -1). -/
abbrev Sh := List ByteArray × Int
def slotOf : List ByteArray → ByteArray → Option Nat
  | [], _ => none
  | k :: r, s => if k = s then some 0 else (slotOf r s).map (· + 1)
def kidFrom : List Sh → Nat → Int → ByteArray → Option Nat
  | [], _, _, _ => none
  | x :: r, j, i, z => if x.2 = i ∧ x.1.getLast? = some z then some j else kidFrom r (j + 1) i z
def kidCount (T : List Sh) (i : Int) : Nat := (T.filter fun x => decide (x.2 = i)).length
def bitsOf : List ByteArray → (ByteArray → Bool) → Nat
  | [], _ => 0
  | m :: r, p => (if p m then 1 else 0) + 2 * bitsOf r p
/-- Which names are among these keys. -/
def marksOf (names keys : List ByteArray) : Nat := bitsOf names fun m => decide (m ∈ keys)
def markF (names : List ByteArray) (s : ByteArray) : Option Int := if s ∈ names then some (bitsOf names fun m => decide (m = s) : Nat) else none
structure Out where
  r : Int
  ok : Bool
  T : List Sh
def addM (deep fan : Int) (T : List Sh) (i : Int) (z : ByteArray) : Out :=
  if i < 0 ∨ (T.length : Int) ≤ i then ⟨0, false, T⟩ else
  let ks := (T.getD i.toNat ([], 0)).1
  if z ∈ ks then ⟨0, false, T⟩ else
  match kidFrom T 0 i z with
  | some j => ⟨j, true, T⟩
  | none => if deep ≤ ks.length ∨ fan ≤ kidCount T i ∨ 4096 ≤ T.length then ⟨0, false, T⟩ else ⟨T.length, true, T ++ [(ks ++ [z], i)]⟩
/-- What holds of the shapes of a tree. -/
structure WF (deep : Int) (T : List Sh) : Prop where
  pos : 0 < T.length
  le : T.length ≤ 4096
  deep0 : 0 ≤ deep
  deep64 : deep ≤ 64
  root : (T.getD 0 ([], 0)).1 = []
  keys : ∀ i, i < T.length → ((T.getD i ([], 0)).1.length : Int) ≤ deep
  nodup : ∀ i, i < T.length → (T.getD i ([], 0)).1.Nodup
  par : ∀ i, i < T.length → (T.getD i ([], 0)).2 < i
  path : ∀ i, i < T.length → ∀ p : Nat, (T.getD i ([], 0)).2 = p → ∃ z, z ∉ (T.getD p ([], 0)).1 ∧ (T.getD i ([], 0)).1 = (T.getD p ([], 0)).1 ++ [z]

theorem slotOf_none {l : List ByteArray} {s : ByteArray} : slotOf l s = none ↔ s ∉ l := by
  induction l with
  | nil => simp [slotOf]
  | cons k r ih =>
    unfold slotOf
    by_cases h : k = s
    · subst h; simp
    · simp [h, ih, Ne.symm h]
theorem slotOf_isSome (l : List ByteArray) (s : ByteArray) : (slotOf l s).isSome = decide (s ∈ l) := by
  by_cases h : s ∈ l
  · cases e : slotOf l s with
    | none => exact absurd h (slotOf_none.1 e)
    | some j => simp [h]
  · rw [slotOf_none.2 h]; simp [h]
theorem slotOf_snoc (l : List ByteArray) (k s : ByteArray) (hk : k ∉ l) : slotOf (l ++ [k]) s = if s = k then some l.length else slotOf l s := by
  induction l with
  | nil => simp [slotOf, eq_comm]
  | cons x r ih =>
    have hx : x ≠ k := fun e => hk (by simp [e])
    have ih := ih (fun h => hk (by simp [h]))
    simp only [List.cons_append, slotOf, ih]
    by_cases h : x = s
    · subst h; simp [hx]
    · by_cases h2 : s = k <;> simp [h, h2]
      subst h2; exact hx
theorem slotOf_get {l : List ByteArray} {s : ByteArray} {j : Nat} (h : slotOf l s = some j) : l[j]? = some s := by
  induction l generalizing j with
  | nil => simp [slotOf] at h
  | cons k r ih =>
    unfold slotOf at h
    by_cases e : k = s
    · subst e; simp at h; subst h; simp
    · simp [e] at h; obtain ⟨m, h1, rfl⟩ := h; simpa using ih h1
theorem slotOf_at {l : List ByteArray} (hn : l.Nodup) {j : Nat} {s : ByteArray} (h : l[j]? = some s) : slotOf l s = some j := by
  induction l generalizing j with
  | nil => simp at h
  | cons k r ih =>
    unfold slotOf
    have hn' := List.nodup_cons.1 hn
    cases j with
    | zero => simp at h; simp [h]
    | succ j =>
      simp at h
      have hne : k ≠ s := fun e => hn'.1 (e ▸ List.mem_of_getElem? h)
      simp [hne, ih hn'.2 h]
theorem kidFrom_append (T U : List Sh) (j : Nat) (i : Int) (z : ByteArray) : kidFrom (T ++ U) j i z = (match kidFrom T j i z with | some n => some n | none => kidFrom U (j + T.length) i z) := by
  induction T generalizing j with
  | nil => simp [kidFrom]
  | cons x r ih =>
    simp only [List.cons_append, kidFrom]
    split
    · rfl
    · rw [ih]; simp only [List.length_cons, show j + 1 + r.length = j + (r.length + 1) by omega]
theorem kidFrom_none_of {T : List Sh} {j : Nat} {i : Int} (h : ∀ x ∈ T, x.2 ≠ i) (z : ByteArray) : kidFrom T j i z = none := by
  induction T generalizing j with
  | nil => rfl
  | cons x r ih =>
    simp only [kidFrom]
    rw [if_neg (fun e => h x (by simp) e.1), ih (fun y hy => h y (by simp [hy]))]
theorem kidFrom_spec {T : List Sh} {j n : Nat} {i : Int} {z : ByteArray} (h : kidFrom T j i z = some n) : j ≤ n ∧ ∃ x, T[n - j]? = some x ∧ x.2 = i ∧ x.1.getLast? = some z := by
  induction T generalizing j with
  | nil => simp [kidFrom] at h
  | cons x r ih =>
    simp only [kidFrom] at h
    split at h
    · rename_i hc; simp at h; subst h; exact ⟨Nat.le_refl _, x, by simp, hc⟩
    · obtain ⟨h1, y, h2, h3⟩ := ih h
      refine ⟨by omega, y, ?_, h3⟩
      rw [show n - j = (n - (j + 1)) + 1 by omega]; simpa using h2
theorem kidFrom_none {T : List Sh} {j : Nat} {i : Int} {z : ByteArray} (h : kidFrom T j i z = none) : ∀ x ∈ T, ¬ (x.2 = i ∧ x.1.getLast? = some z) := by
  induction T generalizing j with
  | nil => simp
  | cons x r ih =>
    simp only [kidFrom] at h
    split at h
    · cases h
    · rename_i hc; intro y hy; rcases List.mem_cons.1 hy with rfl | hy
      · exact hc
      · exact ih h y hy
theorem kidCount_append (T U : List Sh) (i : Int) : kidCount (T ++ U) i = kidCount T i + kidCount U i := by simp [kidCount]
theorem kidCount_none {T : List Sh} {i : Int} (h : ∀ x ∈ T, x.2 ≠ i) : kidCount T i = 0 := by
  simp only [kidCount, List.length_eq_zero_iff, List.filter_eq_nil_iff, decide_eq_true_eq]
  exact h
theorem kidCount_le (T : List Sh) (i : Int) : kidCount T i ≤ T.length := List.length_filter_le _ _
theorem testBit_bitsOf (l : List ByteArray) (p : ByteArray → Bool) (i : Nat) : (bitsOf l p).testBit i = (match l[i]? with | some m => p m | none => false) := by
  induction l generalizing i with
  | nil => simp [bitsOf]
  | cons m r ih =>
    unfold bitsOf
    cases i with
    | zero =>
      simp only [Nat.testBit_zero, List.getElem?_cons_zero]
      cases p m <;> simp <;> omega
    | succ i =>
      rw [Nat.testBit_succ]
      have : ((if p m = true then 1 else 0) + 2 * bitsOf r p) / 2 = bitsOf r p := by split <;> omega
      rw [this, ih]; simp
theorem bitsOf_or (l : List ByteArray) (p q : ByteArray → Bool) : bitsOf l p ||| bitsOf l q = bitsOf l (fun m => p m || q m) := by
  apply Nat.eq_of_testBit_eq
  intro i
  rw [Nat.testBit_or, testBit_bitsOf, testBit_bitsOf, testBit_bitsOf]
  cases l[i]? <;> simp
theorem bitsOf_lt (l : List ByteArray) (p : ByteArray → Bool) : bitsOf l p < 2 ^ l.length := by
  induction l with
  | nil => simp [bitsOf]
  | cons m r ih =>
    unfold bitsOf
    simp only [List.length_cons, Nat.pow_succ]
    split <;> omega
theorem bitsOf_snoc (l : List ByteArray) (m : ByteArray) (p : ByteArray → Bool) : bitsOf (l ++ [m]) p = bitsOf l p + if p m then 2 ^ l.length else 0 := by
  induction l with
  | nil => simp [bitsOf]
  | cons x r ih =>
    simp only [List.cons_append, bitsOf, ih, List.length_cons, Nat.pow_succ]
    split <;> split <;> omega
theorem bitsOf_congr {l : List ByteArray} {p q : ByteArray → Bool} (h : ∀ m ∈ l, p m = q m) : bitsOf l p = bitsOf l q := by
  induction l with
  | nil => rfl
  | cons x r ih => simp only [bitsOf]; rw [h x (by simp), ih (fun m hm => h m (by simp [hm]))]
theorem bitsOf_zero {l : List ByteArray} {p : ByteArray → Bool} (h : ∀ m ∈ l, p m = false) : bitsOf l p = 0 := by
  rw [bitsOf_congr (q := fun _ => false) h]
  induction l with
  | nil => rfl
  | cons x r ih => simp only [bitsOf]; rw [ih (fun m hm => h m (by simp [hm]))]; simp
theorem markF_getD (names : List ByteArray) (z : ByteArray) : ((markF names z).getD 0) = ((bitsOf names fun m => decide (m = z) : Nat) : Int) := by
  unfold markF
  split
  · rfl
  · rename_i h
    rw [bitsOf_zero]
    · rfl
    · intro m hm; simp; rintro rfl; exact h hm
theorem marksOf_snoc (names ks : List ByteArray) (z : ByteArray) : marksOf names ks ||| (bitsOf names fun m => decide (m = z)) = marksOf names (ks ++ [z]) := by
  unfold marksOf
  rw [bitsOf_or]
  apply bitsOf_congr
  intro m _
  simp
theorem marksOf_lt (names ks : List ByteArray) (h : names.length ≤ 64) : marksOf names ks < 2 ^ 64 :=
  Nat.lt_of_lt_of_le (bitsOf_lt _ _) (Nat.pow_le_pow_right (by omega) h)
theorem getD_append_left {α : Type} {T U : List α} {i : Nat} {d : α} (h : i < T.length) : (T ++ U).getD i d = T.getD i d := by
  simp [List.getD, List.getElem?_append_left h]
theorem getD_snoc {α : Type} (T : List α) (x d : α) : (T ++ [x]).getD T.length d = x := by
  simp [List.getD]
theorem mem_getD {T : List Sh} {x : Sh} (h : x ∈ T) : ∃ i, i < T.length ∧ T.getD i ([], 0) = x := by
  obtain ⟨i, hi, e⟩ := List.getElem_of_mem h
  exact ⟨i, hi, by simp [List.getD, List.getElem?_eq_getElem hi, e]⟩
theorem getD_mem {T : List Sh} {i : Nat} (h : i < T.length) : T.getD i ([], 0) ∈ T := by
  simp [List.getD, List.getElem?_eq_getElem h]
theorem WF.par_lt {deep : Int} {T : List Sh} (h : WF deep T) : ∀ x ∈ T, x.2 < T.length := by
  intro x hx
  obtain ⟨i, hi, rfl⟩ := mem_getD hx
  have := h.par i hi
  omega
theorem WF.add {deep fan : Int} {T : List Sh} (h : WF deep T) (i : Int) (z : ByteArray) : WF deep (addM deep fan T i z).T := by
  unfold addM
  split
  · exact h
  · rename_i hi
    dsimp only
    split
    · exact h
    · rename_i hz
      split
      · exact h
      · split
        · exact h
        · rename_i hd
          have hi2 : i.toNat < T.length := by omega
          have hl := h.pos
          refine ⟨by simp, by simp; omega, h.deep0, h.deep64, by rw [getD_append_left hl]; exact h.root, ?_, ?_, ?_, ?_⟩
          all_goals
            intro j hj
            simp only [List.length_append, List.length_singleton] at hj
            by_cases e : j < T.length
            · rw [getD_append_left e]
              first
                | exact h.keys j e
                | exact h.nodup j e
                | exact h.par j e
                | (intro p hp; have hpar := h.par j e; rw [getD_append_left (by omega)]; exact h.path j e p hp)
            · obtain rfl : j = T.length := by omega
              rw [getD_snoc]
              first
                | (simp only [List.length_append, List.length_singleton]; omega)
                | (simp only [List.nodup_append]; refine ⟨h.nodup _ hi2, by simp, ?_⟩; intro a ha b hb; simp at hb; rintro rfl; exact hz (hb ▸ ha))
                | (dsimp only; omega)
                | (intro p hp; dsimp only at hp; obtain rfl : p = i.toNat := by omega
                   rw [getD_append_left hi2]; exact ⟨z, hz, rfl⟩)
end Go.Proofs.Ytmjfmfelbmbniaa.ShM
