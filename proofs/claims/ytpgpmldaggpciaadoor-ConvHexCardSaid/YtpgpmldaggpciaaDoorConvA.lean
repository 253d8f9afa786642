/- What the reference of layer 3 answers, as the plain functions of ConvP. -/
import Derived.Test.YtpgpmldaggpciaaDoorNumeral
import Derived.Test.YtpgpmldaggpciaaDoorPAllx1
set_option linter.unusedVariables false
set_option linter.unusedSimpArgs false
namespace Go.Proofs.YtpgpmldaggpciaaDoor.Conv03
open Go.RowKit Go.Proofs.YtpgpmldaggpciaaDoor.PAll Go.Proofs.YtpgpmldaggpciaaDoorW.PrintWords Go.Proofs.YtpgpmldaggpciaaDoorW.PrintLast Go.Proofs.YtpgpmldaggpciaaDoorW.PrintMore Go.Proofs.YtpgpmldaggpciaaDoor.Maths Go.Proofs.YtpgpmldaggpciaaDoor.ConvP Go.Proofs.YtpgpmldaggpciaaDoor.TabW
theorem Bnat (a : Nat) : ((B (a : Int)).toNat : Int) = ((a % 18446744073709551616 : Nat) : Int) := by rw [← u64_B, u64_wrap]; omega
theorem flag_step (acc b d : Nat) (hb : 2 ≤ b) (hd : d < b) (hb2 : b ≤ 36) :
    (if ((B (acc : Int)).toNat : Int) > IntKind.u64.wrap (Int.tdiv (IntKind.u64.wrap (18446744073709551615 - (d : Int))) (b : Int)) then true else decide (18446744073709551616 ≤ acc)) = decide (18446744073709551616 ≤ acc * b + d) := by
  have e1 : IntKind.u64.wrap (18446744073709551615 - (d : Int)) = ((18446744073709551615 - d : Nat) : Int) := by rw [u64_wrap]; omega
  have e2 : Int.tdiv (((18446744073709551615 - d : Nat) : Int)) (b : Int) = (((18446744073709551615 - d) / b : Nat) : Int) := by rw [Int.tdiv_eq_ediv_of_nonneg (by omega)]; simp
  have hq : (18446744073709551615 - d) / b ≤ 18446744073709551615 := Nat.le_trans (Nat.div_le_self ..) (by omega)
  have e3 : IntKind.u64.wrap ((((18446744073709551615 - d) / b : Nat) : Int)) = (((18446744073709551615 - d) / b : Nat) : Int) := by
    generalize (18446744073709551615 - d) / b = q at hq ⊢
    rw [u64_wrap]; omega
  rw [e1, e2, e3, Bnat]
  by_cases h : 18446744073709551616 ≤ acc
  · have : 18446744073709551616 ≤ acc * b + d := by have := Nat.le_mul_of_pos_right acc (show 0 < b by omega); omega
    rw [decide_eq_true h, decide_eq_true this]; simp
  · rw [decide_eq_false h, Nat.mod_eq_of_lt (by omega)]
    have key : (18446744073709551615 - d) / b < acc ↔ 18446744073709551616 ≤ acc * b + d := by
      rw [Nat.div_lt_iff_lt_mul (by omega)]; omega
    by_cases h2 : (acc : Int) > (((18446744073709551615 - d) / b : Nat) : Int)
    · rw [if_pos h2]; symm; exact decide_eq_true (key.1 (by omega))
    · rw [if_neg h2]; symm; exact decide_eq_false (fun hh => h2 (by have := key.2 hh; omega))
theorem hexed_iff (s : ByteArray) : hexed s.data.toList = true ↔ ∃ h : 1 < s.size, bt s 0 = 48 ∧ (bt s 1 = 120 ∨ bt s 1 = 88) := by
  unfold hexed
  have hl := size_list s
  constructor
  · intro h
    match hL : s.data.toList with
    | [] => rw [hL] at h; simp at h
    | [_] => rw [hL] at h; simp at h
    | a :: c :: r =>
      rw [hL] at h
      have h1 : 1 < s.size := by rw [hL] at hl; simp at hl; omega
      refine ⟨h1, ?_⟩
      have e0 := selkByte s 0 (by omega)
      have e1 := selkByte s 1 h1
      simp only [hL, List.getElem_cons_zero, List.getElem_cons_succ] at e0 e1
      have e0' : bt s 0 = (a.toNat : Int) := e0
      have e1' : bt s 1 = (c.toNat : Int) := e1
      rw [e0', e1']
      simp at h
      rcases h with ⟨rfl, rfl⟩ | ⟨rfl, rfl⟩
      · exact ⟨rfl, Or.inl rfl⟩
      · exact ⟨rfl, Or.inr rfl⟩
  · rintro ⟨h1, h2, h3⟩
    match hL : s.data.toList with
    | [] => rw [hL] at hl; simp at hl; omega
    | [_] => rw [hL] at hl; simp at hl; omega
    | a :: c :: r =>
      have e0 := selkByte s 0 (by omega)
      have e1 := selkByte s 1 h1
      simp only [hL, List.getElem_cons_zero, List.getElem_cons_succ] at e0 e1
      have e0' : bt s 0 = (a.toNat : Int) := e0
      have e1' : bt s 1 = (c.toNat : Int) := e1
      rw [e0'] at h2
      rw [e1'] at h3
      have ha : a = 48 := UInt8.toNat_inj.1 (by simp; omega)
      subst ha
      rcases h3 with h3 | h3
      · have hc : c = 120 := UInt8.toNat_inj.1 (by simp; omega)
        subst hc; simp
      · have hc : c = 88 := UInt8.toNat_inj.1 (by simp; omega)
        subst hc; simp
theorem wrapB (n : Nat) : wrap64 ((B (n : Int)).toNat : Int) = wrap64 (n : Int) := by rw [wrap64_B, B_toNat, wrap64_B]
theorem empty_dec (l : List UInt8) (n : Nat) (h : l.length = n) : decide ((n : Int) > 0) = !l.isEmpty := by subst h; cases l <;> simp
theorem numeral_is (s : ByteArray) (hs : s.size ≤ 140737488351232) : conv_Numeral.f s = some (numL s.data.toList 9223372036854775807) := by
  unfold conv_Numeral.f conv_numeral.f numF; rw [if_pos ⟨hs, by omega, by omega⟩]; rfl
end Go.Proofs.YtpgpmldaggpciaaDoor.Conv03
