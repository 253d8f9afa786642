/- What the reference of layer 3 answers, as the plain functions of ConvP. -/
import Derived.Test.YtpgpmldaggpciaaGreatDoorConvA
import Derived.Test.YtpgpmldaggpciaaGreatDoorNumeral
import Derived.Test.YtpgpmldaggpciaaGreatDoorPAllx2
import Derived.Test.YtpgpmldaggpciaaGreatDoorPAllx3
set_option linter.unusedVariables false
set_option linter.unusedSimpArgs false
namespace Go.Proofs.YtpgpmldaggpciaaGreatDoor.Conv03
open Go.RowKit Go.Proofs.YtpgpmldaggpciaaGreatDoor.PAll Go.Proofs.YtpgpmldaggpciaaGreatDoorW.PrintWords Go.Proofs.YtpgpmldaggpciaaGreatDoorW.PrintLast Go.Proofs.YtpgpmldaggpciaaGreatDoorW.PrintMore Go.Proofs.YtpgpmldaggpciaaGreatDoor.Maths Go.Proofs.YtpgpmldaggpciaaGreatDoor.ConvP Go.Proofs.YtpgpmldaggpciaaGreatDoor.TabW
theorem rdigit_is (k : Nat) (c : UInt8) : selkieref03_digit.f (k + 2) (c.toNat : Int) = some (dig c : Int) := by
  have hlt : c.toNat < 256 := c.toNat_lt
  unfold selkieref03_digit.f dig
  by_cases h1 : 48 ≤ c.toNat ∧ c.toNat ≤ 57
  · rw [if_pos (by omega), decide_eq_true (by omega), if_pos h1, selkieref03_digit.j0, if_pos rfl]; congr 1; omega
  · rw [if_neg h1]
    have e0 : (if (c.toNat : Int) ≥ 48 then selkieref03_digit.j0 (k + 2) (c.toNat : Int) (decide ((c.toNat : Int) ≤ 57)) else selkieref03_digit.j0 (k + 2) (c.toNat : Int) false) = selkieref03_digit.j0 (k + 2) (c.toNat : Int) false := by
      by_cases h : (c.toNat : Int) ≥ 48
      · rw [if_pos h, decide_eq_false (by omega)]
      · rw [if_neg h]
    rw [e0, selkieref03_digit.j0, if_neg (by decide)]
    by_cases h2 : 97 ≤ c.toNat ∧ c.toNat ≤ 122
    · rw [if_pos h2, if_pos (by omega), decide_eq_true (by omega), selkieref03_digit.j1, if_pos rfl]; congr 1; omega
    · rw [if_neg h2]
      have e1 : (if (c.toNat : Int) ≥ 97 then selkieref03_digit.j1 (k + 1) (c.toNat : Int) (decide ((c.toNat : Int) ≤ 122)) else selkieref03_digit.j1 (k + 1) (c.toNat : Int) false) = selkieref03_digit.j1 (k + 1) (c.toNat : Int) false := by
        by_cases h : (c.toNat : Int) ≥ 97
        · rw [if_pos h, decide_eq_false (by omega)]
        · rw [if_neg h]
      rw [e1, selkieref03_digit.j1, if_neg (by decide)]
      by_cases h3 : 65 ≤ c.toNat ∧ c.toNat ≤ 90
      · rw [if_pos h3, if_pos (by omega), if_pos (by omega)]; congr 1; omega
      · rw [if_neg h3]
        by_cases h4 : (c.toNat : Int) ≥ 65
        · rw [if_pos h4, if_neg (by omega)]; rfl
        · rw [if_neg h4]; rfl
theorem digits_loop (s : ByteArray) (b : Nat) (hb : 2 ≤ b ∧ b ≤ 36) (hs : s.size ≤ 9223372036854775806) (d : Nat) : ∀ (k i acc : Nat), i + d = s.size → d + 4 ≤ k →
    selkieref03_digits.l0 k s (b : Int) ((B (acc : Int)).toNat : Int) (decide (18446744073709551616 ≤ acc)) (i : Int) =
      some (if okD b (s.data.toList.drop i) = true then (((B (valA b acc (s.data.toList.drop i) : Int)).toNat : Int), decide (18446744073709551616 ≤ valA b acc (s.data.toList.drop i)), decide ((s.size : Int) > 0)) else (0, false, false)) := by
  induction d with
  | zero =>
    intro k i acc hi hk
    obtain ⟨k, rfl⟩ : ∃ m, k = m + 1 := ⟨k - 1, by omega⟩
    rw [selkieref03_digits.l0, if_neg (by omega), List.drop_eq_nil_of_le (by rw [size_list]; omega)]; rfl
  | succ d ih =>
    intro k i acc hi hk
    obtain ⟨k, rfl⟩ : ∃ m, k = m + 3 := ⟨k - 3, by omega⟩
    have hlt : i < s.size := by omega
    rw [selkieref03_digits.l0, if_pos (by omega), if_pos (by omega), selkByte s i hlt, rdigit_is k]
    simp only [Option.bind_some]
    rw [List.drop_eq_getElem_cons (by rw [size_list]; exact hlt)]
    generalize s.data.toList[i]'(by rw [size_list]; exact hlt) = c
    have ec : okD b (c :: s.data.toList.drop (i + 1)) = (decide (dig c < b) && okD b (s.data.toList.drop (i + 1))) := rfl
    rw [ec, valA_cons]
    by_cases hd : dig c < b
    · rw [if_neg (by omega), if_neg (by omega), decide_eq_true hd, Bool.true_and]
      have hn := ih (k + 2) (i + 1) (acc * b + dig c) (by omega) (by omega)
      have hv : IntKind.u64.wrap (IntKind.u64.wrap (((B (acc : Int)).toNat : Int) * (b : Int)) + (dig c : Int)) = ((B ((acc * b + dig c : Nat) : Int)).toNat : Int) := by
        rw [u64_B]; congr 2
        push_cast
        simp only [B_add, B_u64, B_mul, B_toNat]
      have hw : wrap64 ((i : Int) + 1) = ((i + 1 : Nat) : Int) := by rw [wrap64_in (by omega)]; omega
      have hf := flag_step acc b (dig c) hb.1 hd hb.2
      rw [hv, hw]
      by_cases hc : ((B (acc : Int)).toNat : Int) > IntKind.u64.wrap (Int.tdiv (IntKind.u64.wrap (18446744073709551615 - (dig c : Int))) (b : Int))
      · rw [if_pos hc] at hf ⊢; rw [← hf] at hn; exact hn
      · rw [if_neg hc] at hf ⊢; rw [← hf] at hn; exact hn
    · rw [if_pos (by omega), decide_eq_false hd]; simp
theorem digits_is (s : ByteArray) (b : Nat) (hb : 2 ≤ b ∧ b ≤ 36) (hs : s.size ≤ 9223372036854775806) (k : Nat) (hk : s.size + 4 ≤ k) : selkieref03_digits.f k s (b : Int) =
    some (if okD b s.data.toList = true then (((B (valD b s.data.toList : Int)).toNat : Int), decide (18446744073709551616 ≤ valD b s.data.toList), decide ((s.size : Int) > 0)) else (0, false, false)) := by
  unfold selkieref03_digits.f valD
  have h := digits_loop s b hb hs s.size k 0 0 (by omega) hk
  have h0 : ((B ((0 : Nat) : Int)).toNat : Int) = 0 := by rw [Bnat]; rfl
  rw [h0, List.drop_zero] at h
  exact h
theorem plain_is (s : ByteArray) (most : Int) (hm : 0 ≤ most ∧ most ≤ 18446744073709551615) (hs : s.size ≤ 140737488351232) (k : Nat) (hk : s.size + 5 ≤ k) : selkieref03_plain.f k s most = some (numL s.data.toList most.toNat) := by
  obtain ⟨k, rfl⟩ : ∃ m, k = m + 1 := ⟨k - 1, by omega⟩
  have yes : hexed s.data.toList = true → selkieref03_plain.j0 (k + 1) s most true = some (numL s.data.toList most.toNat) := by
    intro h
    obtain ⟨h1, _⟩ := (hexed_iff s).1 h
    have hz : (s.extract 2 s.size).size = s.size - 2 := by rw [ByteArray.size_extract]; omega
    rw [selkieref03_plain.j0, if_pos rfl, if_pos (by omega)]
    have hd := digits_is (s.extract 2 s.size) 16 (by omega) (by omega) k (by omega)
    rw [ext_list, List.take_of_length_le (by rw [List.length_drop, size_list]; omega)] at hd
    have hd' : selkieref03_digits.f k (s.extract 2 s.size) 16 = _ := hd
    rw [hd']; simp only [Option.bind_some]
    unfold numL roundF; rw [if_pos h]
    have he := empty_dec (s.data.toList.drop 2) (s.extract 2 s.size).size (by rw [List.length_drop, size_list, hz])
    rw [he]
    by_cases ho : okD 16 (s.data.toList.drop 2) = true
    · rw [if_pos ho, if_pos ho]; simp only [wrapB]
    · rw [if_neg ho, if_neg ho]; show some (wrap64 0, false) = _; rw [wrap64_in (by omega)]
  have no : ¬ hexed s.data.toList = true → selkieref03_plain.j0 (k + 1) s most false = some (numL s.data.toList most.toNat) := by
    intro h
    rw [selkieref03_plain.j0, if_neg (by decide)]
    have hd := digits_is s 10 (by omega) (by omega) k (by omega)
    have hd' : selkieref03_digits.f k s 10 = _ := hd
    rw [hd']; simp only [Option.bind_some]
    unfold numL; rw [if_neg h]
    have he := empty_dec s.data.toList s.size (size_list s)
    rw [he]
    by_cases ho : okD 10 s.data.toList = true
    · rw [if_pos ho]; simp only
      by_cases h0 : s.data.toList = []
      · rw [if_neg (by rw [h0]; decide), if_neg (fun hh => hh.2.1 h0)]
      · rw [if_pos (by cases hl : s.data.toList with | nil => exact absurd hl h0 | cons _ _ => rfl)]
        by_cases hv : 18446744073709551616 ≤ valD 10 s.data.toList
        · rw [if_pos (decide_eq_true hv), if_neg (fun hh => by omega)]
        · rw [if_neg (by rw [decide_eq_false hv]; decide), Bnat, Nat.mod_eq_of_lt (by omega)]
          by_cases hle : valD 10 s.data.toList ≤ most.toNat
          · rw [if_neg (by omega), if_pos ⟨ho, h0, by omega, hle⟩]
          · rw [if_pos (by omega), if_neg (fun hh => hle hh.2.2.2)]
    · rw [if_neg ho]; simp only
      rw [if_neg (by decide), if_neg (fun hh => ho hh.1)]
  unfold selkieref03_plain.f
  by_cases h : hexed s.data.toList = true
  · obtain ⟨h1, h2, h3⟩ := (hexed_iff s).1 h
    rw [if_pos (by omega), if_pos (by omega), if_pos h2, if_pos (by omega)]
    rcases h3 with h3 | h3
    · rw [if_pos h3]; exact yes h
    · rw [if_neg (by omega)]
      have e : (bt s 1 == 88) = true := beq_iff_eq.2 h3
      rw [e]; exact yes h
  · have hn : ¬ _ := fun hh => h ((hexed_iff s).2 hh)
    by_cases h1 : (s.size : Int) > 1
    · rw [if_pos h1, if_pos (by omega)]
      by_cases h2 : bt s 0 = 48
      · rw [if_pos h2, if_pos (by omega)]
        have h3 : ¬ bt s 1 = 120 := fun e => hn ⟨by omega, h2, Or.inl e⟩
        have h4 : (bt s 1 == 88) = false := beq_eq_false_iff_ne.2 (fun e => hn ⟨by omega, h2, Or.inr e⟩)
        rw [if_neg h3, h4]; exact no h
      · rw [if_neg h2]; exact no h
    · rw [if_neg h1]; exact no h
theorem rnumeral_is (s : ByteArray) (hs : s.size ≤ 140737488351232) (k : Nat) (hk : s.size + 5 ≤ k) : selkieref03_Numeral.f k s = some (numL s.data.toList 9223372036854775807) := by
  unfold selkieref03_Numeral.f; rw [plain_is s _ (by omega) hs k hk]; rfl
end Go.Proofs.YtpgpmldaggpciaaGreatDoor.Conv03
