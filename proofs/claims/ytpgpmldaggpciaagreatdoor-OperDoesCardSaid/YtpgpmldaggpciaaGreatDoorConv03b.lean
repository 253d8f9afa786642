/- conv and its reference: trim, ToInt, Base. -/
import Derived.Test.YtpgpmldaggpciaaGreatDoorConvB
import Derived.Test.YtpgpmldaggpciaaGreatDoorConv03
import Derived.Test.YtpgpmldaggpciaaGreatDoorPAllx2
import Derived.Test.YtpgpmldaggpciaaGreatDoorPAllx3
set_option linter.unusedVariables false
set_option linter.unusedSimpArgs false
namespace Go.Proofs.YtpgpmldaggpciaaGreatDoor.Conv03
open Go.RowKit Go.Proofs.YtpgpmldaggpciaaGreatDoor.PAll Go.Proofs.YtpgpmldaggpciaaGreatDoorW.PrintWords Go.Proofs.YtpgpmldaggpciaaGreatDoorW.PrintLast Go.Proofs.YtpgpmldaggpciaaGreatDoorW.PrintMore Go.Proofs.YtpgpmldaggpciaaGreatDoor.Maths Go.Proofs.YtpgpmldaggpciaaGreatDoor.ConvP Go.Proofs.YtpgpmldaggpciaaGreatDoor.TabW
theorem l1_is (d : Nat) : ∀ (s : ByteArray) (k : Nat), s.size ≤ d → d + 1 ≤ k → s.size ≤ 9223372036854775806 → selkieref03_trim.l1 k s = some ⟨(rtrim s.data.toList).toArray⟩ := by
  induction d with
  | zero =>
    intro s k hd hk hs
    obtain ⟨k, rfl⟩ : ∃ m, k = m + 1 := ⟨k - 1, by omega⟩
    rw [selkieref03_trim.l1, if_neg (by omega)]
    have : s.data.toList = [] := List.eq_nil_of_length_eq_zero (by rw [size_list]; omega)
    rw [mk_list s _ this]; rfl
  | succ d ih =>
    intro s k hd hk hs
    obtain ⟨k, rfl⟩ : ∃ m, k = m + 1 := ⟨k - 1, by omega⟩
    by_cases h0 : s.size = 0
    · rw [selkieref03_trim.l1, if_neg (by omega)]
      have : s.data.toList = [] := List.eq_nil_of_length_eq_zero (by rw [size_list]; omega)
      rw [mk_list s _ this]; rfl
    · have hz := size_list s
      obtain ⟨l, c, hl⟩ : ∃ l c, s.data.toList = l ++ [c] := by
        rcases List.eq_nil_or_concat s.data.toList with h | ⟨l, c, h⟩
        · rw [h] at hz; simp at hz; omega
        · exact ⟨l, c, by rw [h, List.concat_eq_append]⟩
      have hw : wrap64 ((s.size : Int) - 1) = ((s.size - 1 : Nat) : Int) := by rw [wrap64_in (by omega)]; omega
      have hb : bt s ((s.size - 1 : Nat) : Int) = (c.toNat : Int) := by
        rw [selkByte s (s.size - 1) (by omega)]
        have : l.length = s.size - 1 := by rw [hl, List.length_append] at hz; simp at hz; omega
        simp [hl, ← this]
      have hx : (s.extract 0 (s.size - 1)).data.toList = l := by
        rw [ext_list, hl]
        have : l.length = s.size - 1 := by rw [hl, List.length_append] at hz; simp at hz; omega
        simp [← this]
      rw [selkieref03_trim.l1, if_pos (by omega), hw, if_pos (by omega), if_pos (by omega), hb, Int.toNat_natCast, ends, hl]
      have er : rtrim (l ++ [c]) = if blank c = true then rtrim l else l ++ [c] := by
        unfold rtrim; rw [List.reverse_append, List.reverse_singleton, List.singleton_append, List.dropWhile_cons]
        by_cases hb : blank c = true
        · rw [if_pos hb, if_pos hb]
        · rw [if_neg hb, if_neg hb]; simp
      rw [er]
      by_cases hb : blank c = true
      · rw [if_pos hb, if_pos hb, if_pos (by omega)]
        have hz2 : (s.extract 0 (s.size - 1)).size = s.size - 1 := by rw [ByteArray.size_extract]; omega
        have := ih (s.extract 0 (s.size - 1)) k (by omega) (by omega) (by omega)
        rw [hx] at this; exact this
      · rw [if_neg hb, if_neg hb, ← hl, ← mk_list s _ rfl]
theorem l0_is (d : Nat) : ∀ (s : ByteArray) (k : Nat), s.size ≤ d → 2 * d + 4 ≤ k → s.size ≤ 9223372036854775806 → selkieref03_trim.l0 k s = some ⟨(rtrim (ltrim s.data.toList)).toArray⟩ := by
  induction d with
  | zero =>
    intro s k hd hk hs
    obtain ⟨k, rfl⟩ : ∃ m, k = m + 3 := ⟨k - 3, by omega⟩
    rw [selkieref03_trim.l0, if_neg (by omega), selkieref03_trim.j1, l1_is 0 s _ hd (by omega) hs]
    have : s.data.toList = [] := List.eq_nil_of_length_eq_zero (by rw [size_list]; omega)
    rw [this]; rfl
  | succ d ih =>
    intro s k hd hk hs
    obtain ⟨k, rfl⟩ : ∃ m, k = m + 2 := ⟨k - 2, by omega⟩
    by_cases h0 : s.size = 0
    · rw [selkieref03_trim.l0, if_neg (by omega), selkieref03_trim.j1, l1_is 0 s _ (by omega) (by omega) hs]
      have : s.data.toList = [] := List.eq_nil_of_length_eq_zero (by rw [size_list]; omega)
      rw [this]; rfl
    · have hz := size_list s
      obtain ⟨c, l, hl⟩ : ∃ c l, s.data.toList = c :: l := by
        cases h : s.data.toList with
        | nil => rw [h] at hz; simp at hz; omega
        | cons c l => exact ⟨c, l, rfl⟩
      have hb : bt s 0 = (c.toNat : Int) := by
        have := selkByte s 0 (by omega)
        simp only [hl, List.getElem_cons_zero] at this
        exact this
      have hx : (s.extract 1 s.size).data.toList = l := by
        rw [ext_list, List.take_of_length_le (by rw [List.length_drop, size_list]; omega), hl]; rfl
      rw [selkieref03_trim.l0, if_pos (by omega), if_pos (by omega), hb, ends, hl]
      have er : ltrim (c :: l) = if blank c = true then ltrim l else c :: l := by unfold ltrim; rw [List.dropWhile_cons]
      rw [er]
      by_cases hb : blank c = true
      · rw [if_pos hb, if_pos hb, if_pos (by omega)]
        have hz2 : (s.extract 1 s.size).size = s.size - 1 := by rw [ByteArray.size_extract]; omega
        have := ih (s.extract 1 s.size) (k + 1) (by omega) (by omega) (by omega)
        rw [hx] at this; exact this
      · rw [if_neg hb, if_neg hb, ← hl, selkieref03_trim.j1, l1_is (d + 1) s _ hd (by omega) hs]
theorem rtrim_is (s : ByteArray) (hs : s.size ≤ 9223372036854775806) (k : Nat) (hk : 2 * s.size + 4 ≤ k) : selkieref03_trim.f k s = some (trimB s) := by
  unfold selkieref03_trim.f; rw [l0_is s.size s k (Nat.le_refl _) hk hs, trim_comm]; rfl
theorem rtoInt_is (s : ByteArray) (hs : s.size ≤ 140737488351232) (k : Nat) (hk : 2 * s.size + 8 ≤ k) : selkieref03_ToInt.f k s = some (toIntT (trimB s)) := by
  have ht := trimB_size s
  unfold selkieref03_ToInt.f toIntT
  rw [rtrim_is s (by omega) k (by omega)]; simp only [Option.bind_some]
  generalize trimB s = t at ht ⊢
  have h1 := ext1_size t
  obtain ⟨k, rfl⟩ : ∃ m, k = m + 1 := ⟨k - 1, by omega⟩
  have hm := ahead_iff 45 t
  have hp := ahead_iff 43 t
  have e45 : ((45 : UInt8).toNat : Int) = 45 := rfl
  have e43 : ((43 : UInt8).toNat : Int) = 43 := rfl
  rw [e45] at hm
  rw [e43] at hp
  by_cases h : ahead 45 t = true
  · obtain ⟨a, b⟩ := hm.1 h
    rw [if_pos h, if_pos (by omega), if_pos (by omega), b, selkieref03_ToInt.j0, if_pos (by decide), if_pos (by omega), plain_is _ _ (by decide) (by omega) k (by omega), ext1_list]
    simp only [Option.bind_some, negB]; rfl
  · rw [if_neg h]
    have e : (if (t.size : Int) > 0 then (if 0 < (t.size : Int) then (selkieref03_ToInt.j0 (k + 1) t ((bt t 0) == 45)) else (none)) else (selkieref03_ToInt.j0 (k + 1) t false)) = selkieref03_ToInt.j0 (k + 1) t false := by
      by_cases h0 : (t.size : Int) > 0
      · rw [if_pos h0, if_pos (by omega)]
        have : (bt t 0 == 45) = false := beq_eq_false_iff_ne.2 (fun e => h (hm.2 ⟨by omega, e⟩))
        rw [this]
      · rw [if_neg h0]
    rw [e, selkieref03_ToInt.j0, if_neg (by decide)]
    by_cases hq : ahead 43 t = true
    · obtain ⟨a, b⟩ := hp.1 hq
      rw [if_pos hq, if_pos (by omega), if_pos (by omega), if_pos b, if_pos (by omega), rnumeral_is _ (by omega) k (by omega), ext1_list]; rfl
    · rw [if_neg hq, rnumeral_is t (by omega) k (by omega)]
      by_cases h0 : (t.size : Int) > 0
      · rw [if_pos h0, if_pos (by omega), if_neg (fun e => hq (hp.2 ⟨by omega, e⟩))]; rfl
      · rw [if_neg h0]; rfl
end Go.Proofs.YtpgpmldaggpciaaGreatDoor.Conv03
