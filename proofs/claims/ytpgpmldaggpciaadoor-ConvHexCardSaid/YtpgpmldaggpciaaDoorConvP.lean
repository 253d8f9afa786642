/- Numerals, as plain functions on bytes. No program is in sight. -/
import Derived.Test.YtpgpmldaggpciaaDoorMaths
import Derived.Lib.ParseIntB
import Derived.Lib.SlTrimSet
set_option linter.unusedVariables false
set_option linter.unusedSimpArgs false
namespace Go.Proofs.YtpgpmldaggpciaaDoor.ConvP
open Go.RowKit Go.Proofs.YtpgpmldaggpciaaDoor.Maths
/-- how a byte counts; 99: it is no digit -/
def dig (c : UInt8) : Nat := if 48 ≤ c.toNat ∧ c.toNat ≤ 57 then c.toNat - 48 else if 97 ≤ c.toNat ∧ c.toNat ≤ 122 then c.toNat - 87 else if 65 ≤ c.toNat ∧ c.toNat ≤ 90 then c.toNat - 55 else 99
def okD (b : Nat) (l : List UInt8) : Bool := l.all fun c => decide (dig c < b)
def valA (b : Nat) (acc : Nat) (l : List UInt8) : Nat := l.foldl (fun n c => n * b + dig c) acc
def valD (b : Nat) (l : List UInt8) : Nat := valA b 0 l
theorem valA_cons (b acc : Nat) (c : UInt8) (l : List UInt8) : valA b acc (c :: l) = valA b (acc * b + dig c) l := rfl
theorem valA_ge (b : Nat) (hb : 1 ≤ b) : ∀ (l : List UInt8) (acc : Nat), acc ≤ valA b acc l
  | [], acc => Nat.le_refl _
  | c :: l, acc => Nat.le_trans (by have := Nat.le_mul_of_pos_right acc hb; omega) (valA_ge b hb l (acc * b + dig c))
theorem dig_10 (c : UInt8) : dig c < 10 ↔ 48 ≤ c.toNat ∧ c.toNat ≤ 57 := by
  unfold dig
  by_cases h1 : 48 ≤ c.toNat ∧ c.toNat ≤ 57
  · rw [if_pos h1]; omega
  · rw [if_neg h1]
    by_cases h2 : 97 ≤ c.toNat ∧ c.toNat ≤ 122
    · rw [if_pos h2]; omega
    · rw [if_neg h2]; split <;> omega
theorem dig_dec (c : UInt8) (h : 48 ≤ c.toNat ∧ c.toNat ≤ 57) : dig c = c.toNat - 48 := by unfold dig; rw [if_pos h]
/-- what conv's round answers -/
def roundF (b : Nat) (l : List UInt8) : Int × Bool := if okD b l then (wrap64 (valD b l : Int), !l.isEmpty) else (0, false)
/-- a string of digits, parsed -/
theorem parse_dec : ∀ (l : List UInt8) (acc : Nat), okD 10 l = true → acc < 18446744073709551616 →
    Lib.parseUintM 18446744073709551615 acc l = if valA 10 acc l < 18446744073709551616 then .ok (valA 10 acc l) else .range
  | [], acc, _, ha => by rw [Lib.parseUintM]; rw [if_pos (show valA 10 acc [] < _ from ha)]; rfl
  | c :: l, acc, h, ha => by
    have h1 : dig c < 10 ∧ okD 10 l = true := by simpa [okD] using h
    have hc := (dig_10 c).1 h1.1
    have hd := dig_dec c hc
    rw [Lib.parseUintM, if_pos hc, valA_cons, hd]
    have ge := valA_ge 10 (by decide) l (acc * 10 + (c.toNat - 48))
    by_cases h2 : 1844674407370955162 ≤ acc
    · rw [if_pos h2, if_neg (by omega)]
    · rw [if_neg h2]
      by_cases h3 : 18446744073709551615 < acc * 10 + (c.toNat - 48)
      · rw [if_pos h3, if_neg (by omega)]
      · rw [if_neg h3]; exact parse_dec l _ h1.2 (by omega)
theorem parseB_dec (l : List UInt8) (h : okD 10 l = true) (hne : l ≠ []) : Lib.parseUintB 64 l = if valD 10 l < 18446744073709551616 then .ok (valD 10 l) else .range := by
  unfold Lib.parseUintB; rw [if_neg hne]; exact parse_dec l 0 h (by omega)
def decs : List UInt8 := [48, 49, 50, 51, 52, 53, 54, 55, 56, 57]
theorem decs_mem (c : UInt8) : decs.contains c = decide (dig c < 10) := by
  rw [Bool.eq_iff_iff, decide_eq_true_eq, dig_10]; unfold decs
  simp only [List.contains_iff_mem, List.mem_cons, List.not_mem_nil, or_false]
  have e : ∀ k : UInt8, c = k ↔ c.toNat = k.toNat := fun k => ⟨fun h => by rw [h], fun h => UInt8.toNat_inj.1 h⟩
  simp only [e]; simp; omega
theorem dropWhile_nil {p : UInt8 → Bool} : ∀ l : List UInt8, l.dropWhile p = [] ↔ l.all p = true
  | [] => by simp
  | c :: l => by
    rw [List.dropWhile_cons, List.all_cons]
    by_cases h : p c = true
    · rw [if_pos h, dropWhile_nil l, h]; simp
    · rw [if_neg h]; simp [h]
theorem trim_nil (l cs : List UInt8) : Lib.trimS l cs = [] ↔ l.all (cs.contains ·) = true := by
  unfold Lib.trimS Lib.trimLeftS Lib.trimRightS
  rw [dropWhile_nil]
  constructor
  · intro h
    have : (l.reverse.dropWhile (cs.contains ·)).all (cs.contains ·) = true := by simpa using h
    have h2 : l.reverse.dropWhile (cs.contains ·) = [] := by
      cases hd : l.reverse.dropWhile (cs.contains ·) with
      | nil => rfl
      | cons a r =>
        have ha := List.head?_dropWhile_not (p := (cs.contains ·)) l.reverse
        rw [hd] at ha this
        simp at ha this
        exact absurd this.1 ha
    rw [dropWhile_nil] at h2; simpa using h2
  · intro h
    have h2 : l.reverse.dropWhile (cs.contains ·) = [] := by rw [dropWhile_nil]; simpa using h
    rw [h2]; rfl
theorem trim_decs (l : List UInt8) : Lib.trimS l decs = [] ↔ okD 10 l = true := by
  rw [trim_nil]; unfold okD
  have : (fun c => decs.contains c) = fun c => decide (dig c < 10) := funext decs_mem
  rw [this]
def hexed (l : List UInt8) : Bool := [48, 120].isPrefixOf l || [48, 88].isPrefixOf l
/-- what conv's numeral answers -/
def numL (l : List UInt8) (most : Nat) : Int × Bool :=
  if hexed l then roundF 16 (l.drop 2) else if okD 10 l ∧ l ≠ [] ∧ valD 10 l < 18446744073709551616 ∧ valD 10 l ≤ most then (wrap64 (valD 10 l : Int), true) else (0, false)
end Go.Proofs.YtpgpmldaggpciaaDoor.ConvP
