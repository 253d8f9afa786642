/- The reference of layer 1 answers what package value answers. -/
import Derived.Test.YtpgpmldaggpciaaGreatDoorValH
import Derived.Test.YtpgpmldaggpciaaGreatDoorPAllx5
import Derived.Test.YtpgpmldaggpciaaGreatDoorPAllx6
import Derived.Laws.BytesArg
import Derived.Lib.LazyBuf
import Derived.Lib.ItoaNum
set_option linter.unusedVariables false
set_option linter.unusedSimpArgs false
namespace Go.Proofs.YtpgpmldaggpciaaGreatDoor.Ref01
open Go.RowKit Go.Proofs.YtpgpmldaggpciaaGreatDoor.PAll Go.Proofs.YtpgpmldaggpciaaGreatDoorW.PrintWords Go.Proofs.YtpgpmldaggpciaaGreatDoorW.PrintLast Go.Proofs.YtpgpmldaggpciaaGreatDoorW.PrintMore Go.Proofs.YtpgpmldaggpciaaGreatDoor.Maths Go.Proofs.YtpgpmldaggpciaaGreatDoor.TabW Go.Proofs.YtpgpmldaggpciaaGreatDoor.Val

theorem strange_is' (k n : Int) (s : ByteArray) : selkieref01_strange.f k n s = some (decide (k < 0 ∨ k > 7)) := by
  unfold selkieref01_strange.f; by_cases h : k < 0 <;> simp [h]
theorem truth_is' (k n : Int) (s : ByteArray) : selkieref01_Truth.f k n s = some (truthB k n) := by
  unfold selkieref01_Truth.f truthB
  rw [strange_is']; simp only [Option.bind_some]
  by_cases h : k < 0 ∨ k > 7
  · rw [if_pos (by simp [h])]; congr 1; symm; rw [decide_eq_false_iff_not]; omega
  · rw [if_neg (by simp; omega)]
    by_cases h0 : k = 0
    · subst h0; simp
    rw [if_neg h0]
    by_cases h1 : k = 1
    · subst h1; by_cases hn : n = 0 <;> simp [hn]
    · rw [if_neg h1]; congr 1; rw [Bool.eq_iff_iff]; simp; omega
theorem less_drop (a b : ByteArray) (i : Nat) (ha : i < a.size) (hb : i < b.size) : Op.bytesLess (a.data.toList.drop i) (b.data.toList.drop i) = (a[i] < b[i] || (a[i] == b[i] && Op.bytesLess (a.data.toList.drop (i + 1)) (b.data.toList.drop (i + 1)))) := by
  have ha' : i < a.data.toList.length := by rw [Array.length_toList]; exact ha
  have hb' : i < b.data.toList.length := by rw [Array.length_toList]; exact hb
  rw [List.drop_eq_getElem_cons ha', List.drop_eq_getElem_cons hb']
  rfl
theorem before_loop (a b : ByteArray) (d : Nat) (hm : a.size ≤ 9223372036854775806) : ∀ (k i : Nat), i ≤ a.size → i ≤ b.size → a.size - i ≤ d → 2 * d + 2 ≤ k →
    selkieref01_Before.l0 k a b (i : Int) = some (Op.bytesLess (a.data.toList.drop i) (b.data.toList.drop i)) := by
  have ends : ∀ (k i : Nat), 2 ≤ k → (¬ (i < a.size) ∧ i = a.size ∧ i ≤ b.size ∨ i < a.size ∧ i = b.size) → selkieref01_Before.l0 k a b (i : Int) = some (Op.bytesLess (a.data.toList.drop i) (b.data.toList.drop i)) := by
    intro k i hk h
    obtain ⟨k, rfl⟩ : ∃ j, k = j + 2 := ⟨k - 2, by omega⟩
    have hda : (a.data.toList.drop i).length = a.size - i := by rw [List.length_drop, Array.length_toList]; rfl
    have hdb : (b.data.toList.drop i).length = b.size - i := by rw [List.length_drop, Array.length_toList]; rfl
    simp only [selkieref01_Before.l0]
    rcases h with ⟨h1, h2, h3⟩ | ⟨h1, h2⟩
    · rw [if_neg (by omega), selkieref01_Before.j1, if_neg (by decide)]
      have e : a.data.toList.drop i = [] := List.eq_nil_of_length_eq_zero (by omega)
      rw [e]; congr 1
      cases hb : b.data.toList.drop i with
      | nil => rw [hb] at hdb; simp [Op.bytesLess] at hdb ⊢; omega
      | cons x y => rw [hb] at hdb; simp [Op.bytesLess] at hdb ⊢; omega
    · rw [if_pos (by omega), decide_eq_false (by omega), selkieref01_Before.j1, if_neg (by decide)]
      have e : b.data.toList.drop i = [] := List.eq_nil_of_length_eq_zero (by omega)
      rw [e]; congr 1
      cases hb : a.data.toList.drop i with
      | nil => rw [hb] at hda; simp [Op.bytesLess] at hda ⊢; omega
      | cons x y => simp [Op.bytesLess]; omega
  induction d with
  | zero => intro k i h1 h2 h3 h4; exact ends k i (by omega) (by omega)
  | succ d ih =>
    intro k i h1 h2 h3 h4
    by_cases hi : i < a.size ∧ i < b.size
    · obtain ⟨k, rfl⟩ : ∃ j, k = j + 2 := ⟨k - 2, by omega⟩
      simp only [selkieref01_Before.l0]
      rw [if_pos (by omega), decide_eq_true (by omega), selkieref01_Before.j1, if_pos rfl, if_pos (by omega), if_pos (by omega), if_pos (by omega)]
      have ea : bt a (i : Int) = (a[i].toNat : Int) := by unfold bt; rw [dif_pos (by rw [Int.toNat_natCast]; exact hi.1)]; rfl
      have eb : bt b (i : Int) = (b[i].toNat : Int) := by unfold bt; rw [dif_pos (by rw [Int.toNat_natCast]; exact hi.2)]; rfl
      rw [ea, eb, less_drop a b i hi.1 hi.2]
      by_cases he : a[i] = b[i]
      · rw [if_pos (by rw [he]), wrap64_in (by omega)]
        have := ih k (i + 1) (by omega) (by omega) (by omega) (by omega)
        rw [show ((i : Int) + 1) = ((i + 1 : Nat) : Int) by omega, this]; simp [he]
      · have hn : (a[i].toNat : Int) ≠ (b[i].toNat : Int) := by
          intro h; apply he; exact UInt8.toNat_inj.1 (by omega)
        rw [if_neg hn]; congr 1
        have e1 : (a[i] == b[i]) = false := beq_eq_false_iff_ne.2 he
        rw [e1]; simp [UInt8.lt_iff_toNat_lt]
    · exact ends k i (by omega) (by omega)
theorem less_is' (k1 n1 : Int) (s1 : ByteArray) (k2 n2 : Int) (s2 : ByteArray) (hm : s1.size ≤ 9223372036854775806) : selkieref01_Less.f (2 * s1.size + 3) k1 n1 s1 k2 n2 s2 = some (lessB k1 n1 s1 k2 n2 s2) := by
  unfold selkieref01_Less.f lessB
  have hl : selkieref01_Before.f (2 * s1.size + 2) s1 s2 = some (Op.bytesLess s1.toList s2.toList) := by
    unfold selkieref01_Before.f
    have := before_loop s1 s2 s1.size hm (2 * s1.size + 2) 0 (by omega) (by omega) (by omega) (by omega)
    rw [ByteArray.toList_eq, ByteArray.toList_eq]
    simpa using this
  by_cases h1 : k1 = 2
  · subst h1
    by_cases h2 : k2 = 2
    · subst h2; simp [selkieref01_Less.j0]
    · have hb : (k2 == 2) = false := beq_eq_false_iff_ne.2 h2
      rw [if_pos rfl, hb, if_neg (by omega), selkieref01_Less.j0, if_neg (by decide), if_neg (by decide)]
  · rw [if_neg h1, selkieref01_Less.j0, if_neg (by decide)]
    by_cases h3 : k1 = 3
    · subst h3
      by_cases h4 : k2 = 3
      · subst h4; simp [hl]
      · rw [if_pos rfl, if_neg h4, if_neg (by omega)]
    · rw [if_neg h3]; by_cases h5 : k1 = k2
      · rw [if_pos h5, if_neg h1, if_neg h3]
      · rw [if_neg h5]
theorem raw_is' (k1 n1 : Int) (s1 : ByteArray) (k2 n2 : Int) (s2 : ByteArray) : selkieref01_Raw.f 1 k1 n1 s1 k2 n2 s2 = some (rawB k1 n1 s1 k2 n2 s2) := by
  unfold selkieref01_Raw.f rawB
  rw [strange_is', strange_is']; simp only [Option.bind_some]
  by_cases h : k1 < 0 ∨ k1 > 7
  · rw [if_pos (by simp [h]), selkieref01_Raw.j0, if_pos rfl]; congr 1; symm; rw [decide_eq_false_iff_not]; omega
  rw [if_neg (by simp; omega)]
  by_cases h2 : k2 < 0 ∨ k2 > 7
  · rw [if_pos (by simp [h2]), selkieref01_Raw.j0, if_pos rfl]; congr 1; symm; rw [decide_eq_false_iff_not]; omega
  rw [if_neg (by simp; omega)]
  by_cases he : k1 = k2
  · subst he
    have hb : (k1 != k1) = false := by simp
    rw [hb, selkieref01_Raw.j0, if_neg (by decide)]
    have hk : 0 ≤ k1 ∧ k1 ≤ 7 := by omega
    by_cases h0 : k1 = 0
    · subst h0; simp [ownN, ownS]
    rw [if_neg h0]
    by_cases h1 : k1 = 1
    · subst h1
      have e1 : (n1 == 0) = decide (n1 = 0) := rfl
      have e2 : (n2 == 0) = decide (n2 = 0) := rfl
      rw [e1, e2]
      by_cases a : n1 = 0 <;> by_cases b : n2 = 0 <;> simp [ownN, ownS, a, b]
    rw [if_neg h1]
    by_cases h3 : k1 = 3
    · subst h3; simp only [if_true]; congr 1; rw [Bool.eq_iff_iff]; simp [ownN, ownS, toList_inj]
    rw [if_neg h3]; congr 1; rw [Bool.eq_iff_iff]
    have e1 : ∀ n, ownN k1 n = n := by intro n; unfold ownN; rw [if_neg h1, if_pos (by omega)]
    rw [e1, e1]
    simp [ownS, h3, hk]
  · have hb : (k1 != k2) = true := by simp [he]
    rw [hb, selkieref01_Raw.j0, if_pos rfl]; congr 1; symm; rw [decide_eq_false_iff_not]; rintro ⟨_, _, h3, _⟩; exact he h3
end Go.Proofs.YtpgpmldaggpciaaGreatDoor.Ref01
