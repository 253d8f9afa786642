/- The calls of package value, as plain functions on a value's three fields. -/
import Derived.Test.YtpgpmldaggpciaaDoorPAllx2
import Derived.Test.YtpgpmldaggpciaaDoorPAllx6
import Derived.Test.YtpgpmldaggpciaaDoorPAllx7
import Derived.Test.YtpgpmldaggpciaaDoorPAllx8
import Derived.Test.YtpgpmldaggpciaaDoorPAllx9
import Derived.Test.YtpgpmldaggpciaaDoorMaths
import Derived.Test.YtpgpmldaggpciaaDoorValT
import Derived.Test.YtpgpmldaggpciaaDoorType
import Derived.WalkKit
import Derived.Lib.Hide
import Derived.Lib.LaidTab
import Derived.Lib.AppendIntMem
set_option linter.unusedVariables false
set_option linter.unusedSimpArgs false
namespace Go.Proofs.YtpgpmldaggpciaaDoor.Val
open Go.RowKit Go.Proofs.YtpgpmldaggpciaaDoor.PAll Go.Proofs.YtpgpmldaggpciaaDoorW.PrintWords Go.Proofs.YtpgpmldaggpciaaDoorW.PrintLast Go.Proofs.YtpgpmldaggpciaaDoorW.PrintMore Go.Proofs.YtpgpmldaggpciaaDoor.Maths Go.Proofs.YtpgpmldaggpciaaDoor.TabW

/-- a value's own fields -/
def ownK (k : Int) : Int := if 0 ≤ k ∧ k ≤ 7 then k else 0
def ownN (k n : Int) : Int := if k = 1 then (if n = 0 then 0 else 1) else if k = 2 ∨ 4 ≤ k ∧ k ≤ 7 then n else 0
def ownS (k : Int) (s : ByteArray) : ByteArray := if k = 3 then s else ⟨#[]⟩
theorem own_is (k n : Int) (s : ByteArray) : value_Own.f k n s = some (ownK k, ownN k n, ownS k s) := by
  unfold value_Own.f value_OfBool.f value_OfStr.f ownK ownN ownS
  by_cases h1 : k = 1
  · subst h1; by_cases h : n = 0 <;> simp [h]
  by_cases h3 : k = 3
  · subst h3; simp
  by_cases h2 : k = 2
  · subst h2; simp
  by_cases h4 : k = 4
  · subst h4; simp
  by_cases h5 : k = 5
  · subst h5; simp
  by_cases h6 : k = 6
  · subst h6; simp
  by_cases h7 : k = 7
  · subst h7; simp
  · rw [if_neg h1, if_neg h3, if_neg h2, if_neg h4, if_neg h5, if_neg h6, if_neg h7]
    by_cases h0 : k = 0
    · subst h0; simp
    · rw [if_neg (show ¬ (0 ≤ k ∧ k ≤ 7) by omega), if_neg h1, if_neg (show ¬ (k = 2 ∨ 4 ≤ k ∧ k ≤ 7) by omega), if_neg h3]
theorem own_calls (k n : Int) (s : ByteArray) (w : World) :
    Calls Tryd.prog 91 #[.agg #[.int .i64 k, .int .i64 n, .string s]] w fun e w' => e = .returned (.agg #[.int .i64 (ownK k), .int .i64 (ownN k n), .string (ownS k s)]) ∧ Below w.heap.size w w' :=
  value_Own.calls k n s _ _ _ w (own_is k n s)
theorem strange_is (k n : Int) (s : ByteArray) : value_strange.f k n s = some (decide (k < 0 ∨ k > 7)) := by
  unfold value_strange.f; by_cases h : k < 0 <;> simp [h]
def truthB (k n : Int) : Bool := decide (1 ≤ k ∧ k ≤ 7 ∧ (k = 1 → n ≠ 0))
theorem truth_is (k n : Int) (s : ByteArray) : value_Truth.f k n s = some (truthB k n) := by
  unfold value_Truth.f truthB
  by_cases h0 : k = 0
  · subst h0; simp
  by_cases h1 : k = 1
  · subst h1; by_cases h : n = 0 <;> simp [h]
  · rw [if_neg h0, if_neg h1, strange_is]; simp only [Option.bind_some]; congr 1
    rw [Bool.eq_iff_iff]; simp; omega
theorem truth_calls (k n : Int) (s : ByteArray) (w : World) :
    Calls Tryd.prog 47 #[.agg #[.int .i64 k, .int .i64 n, .string s]] w fun e w' => e = .returned (.bool (truthB k n)) ∧ Below w.heap.size w w' :=
  value_Truth.calls k n s _ w (truth_is k n s)
theorem type_calls (k n : Int) (s : ByteArray) (w : World) :
    Calls Tryd.prog 32 #[.agg #[.int .i64 k, .int .i64 n, .string s]] w fun e w' => e = .returned (.string (typeS k)) ∧ Below w.heap.size w w' :=
  value_Type.calls k n s _ w (type_is k n s)
def boolS (b : Bool) : ByteArray := if b then ⟨#[116, 114, 117, 101]⟩ else ⟨#[102, 97, 108, 115, 101]⟩
theorem bool_is (b : Bool) : strconv_FormatBool_75.f b = some (boolS b) := by cases b <;> rfl
def printS (k n : Int) (s : ByteArray) : ByteArray := if k = 1 then boolS (n != 0) else if k = 2 then itoaS n else if k = 3 then s else typeS k
theorem print_is (k n : Int) (s : ByteArray) (hn : -9223372036854775808 ≤ n ∧ n ≤ 9223372036854775807) : value_Print.f k n s = some (printS k n s) := by
  unfold value_Print.f printS
  by_cases h1 : k = 1
  · subst h1; rw [if_pos rfl, if_pos rfl, bool_is]; rfl
  rw [if_neg h1, if_neg h1]
  by_cases h2 : k = 2
  · subst h2; rw [if_pos rfl, if_pos rfl]; unfold strconv_FormatInt.f fmtF; rw [if_pos ⟨rfl, hn⟩]; rfl
  rw [if_neg h2, if_neg h2]
  by_cases h3 : k = 3
  · subst h3; rfl
  rw [if_neg h3, if_neg h3, type_is]; rfl
def lessB (k1 n1 : Int) (s1 : ByteArray) (k2 n2 : Int) (s2 : ByteArray) : Bool × Bool :=
  if k1 = k2 then (if k1 = 2 then (decide (n1 < n2), true) else if k1 = 3 then (Op.bytesLess s1.toList s2.toList, true) else (false, false)) else (false, false)
theorem less_is (k1 n1 : Int) (s1 : ByteArray) (k2 n2 : Int) (s2 : ByteArray) : value_Less.f k1 n1 s1 k2 n2 s2 = some (lessB k1 n1 s1 k2 n2 s2) := by
  unfold value_Less.f lessB; repeat' (split <;> try rfl)
theorem less_calls (k1 n1 : Int) (s1 : ByteArray) (k2 n2 : Int) (s2 : ByteArray) (w : World) :
    Calls Tryd.prog 71 #[.agg #[.int .i64 k1, .int .i64 n1, .string s1], .agg #[.int .i64 k2, .int .i64 n2, .string s2]] w fun e w' =>
      e = .returned (.tuple #[.bool (lessB k1 n1 s1 k2 n2 s2).1, .bool (lessB k1 n1 s1 k2 n2 s2).2]) ∧ Below w.heap.size w w' :=
  value_Less.calls k1 n1 s1 k2 n2 s2 _ _ w (less_is ..)
def rawB (k1 n1 : Int) (s1 : ByteArray) (k2 n2 : Int) (s2 : ByteArray) : Bool :=
  decide (0 ≤ k1 ∧ k1 ≤ 7 ∧ k1 = k2 ∧ ownN k1 n1 = ownN k2 n2 ∧ ownS k1 s1 = ownS k2 s2)
theorem toList_inj {a b : ByteArray} : a.toList = b.toList ↔ a = b := by
  constructor
  · intro h
    rw [ByteArray.toList_eq, ByteArray.toList_eq] at h
    exact WideShapes.bytes_inj h
  · rintro rfl; rfl
theorem raw_is (k1 n1 : Int) (s1 : ByteArray) (k2 n2 : Int) (s2 : ByteArray) : value_Raw.f k1 n1 s1 k2 n2 s2 = some (rawB k1 n1 s1 k2 n2 s2) := by
  unfold value_Raw.f rawB
  rw [strange_is]; simp only [Option.bind_some]
  by_cases h : k1 < 0 ∨ k1 > 7
  · rw [if_pos (by simp [h])]; congr 1; symm; rw [decide_eq_false_iff_not]; omega
  · rw [if_neg (by simp; omega)]
    by_cases h2 : k1 = k2
    · rw [if_pos h2, own_is, own_is]; simp only [Option.bind_some]; subst h2
      congr 1; rw [Bool.eq_iff_iff]; simp only [Bool.and_eq_true, beq_iff_eq, decide_eq_true_eq, toList_inj]
      constructor
      · rintro ⟨_, h3, h4⟩; exact ⟨by omega, by omega, trivial, h3, h4⟩
      · rintro ⟨_, _, _, h3, h4⟩; exact ⟨trivial, h3, h4⟩
    · rw [if_neg h2]; congr 1; symm; rw [decide_eq_false_iff_not]; rintro ⟨_, _, h3, _⟩; exact h2 h3
theorem raw_calls (k1 n1 : Int) (s1 : ByteArray) (k2 n2 : Int) (s2 : ByteArray) (w : World) :
    Calls Tryd.prog 70 #[.agg #[.int .i64 k1, .int .i64 n1, .string s1], .agg #[.int .i64 k2, .int .i64 n2, .string s2]] w fun e w' =>
      e = .returned (.bool (rawB k1 n1 s1 k2 n2 s2)) ∧ Below w.heap.size w w' :=
  value_Raw.calls k1 n1 s1 k2 n2 s2 _ w (raw_is ..)
theorem ofInt_calls (n : Int) (w : World) :
    Calls Tryd.prog 53 #[.int .i64 n] w fun e w' => e = .returned (.agg #[.int .i64 2, .int .i64 n, .string ⟨#[]⟩]) ∧ Below w.heap.size w w' := value_OfInt.calls n _ _ _ w rfl
theorem ofStr_calls (s : ByteArray) (w : World) :
    Calls Tryd.prog 55 #[.string s] w fun e w' => e = .returned (.agg #[.int .i64 3, .int .i64 0, .string s]) ∧ Below w.heap.size w w' := value_OfStr.calls s _ _ _ w rfl
theorem ofBool_calls (b : Bool) (w : World) :
    Calls Tryd.prog 49 #[.bool b] w fun e w' => e = .returned (.agg #[.int .i64 1, .int .i64 (if b then 1 else 0), .string ⟨#[]⟩]) ∧ Below w.heap.size w w' :=
  value_OfBool.calls b _ _ _ w (by cases b <;> rfl)
end Go.Proofs.YtpgpmldaggpciaaDoor.Val
