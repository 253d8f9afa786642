/- What oper.Blame says, as a plain function, with the calls' contracts; Swap and the values that are made. -/
import Derived.Test.YtpgpmldaggpciaaGreatDoorGivenA
import Derived.Test.YtpgpmldaggpciaaGreatDoorPBlm0
set_option linter.unusedVariables false
set_option linter.unusedSimpArgs false
namespace Go.Proofs.YtpgpmldaggpciaaGreatDoor.GW
open Go.RowKit Go.Proofs.YtpgpmldaggpciaaGreatDoor.PBl Go.Proofs.YtpgpmldaggpciaaGreatDoorW.PrintWords Go.Proofs.YtpgpmldaggpciaaGreatDoorW.PrintLast Go.Proofs.YtpgpmldaggpciaaGreatDoorW.PrintMore Go.Proofs.YtpgpmldaggpciaaGreatDoor.Maths Go.Proofs.YtpgpmldaggpciaaGreatDoor.TabW
abbrev inR (n : Int) : Prop := -9223372036854775808 ≤ n ∧ n ≤ 9223372036854775807
theorem typeS_size (k : Int) : (typeS k).size ≤ 8 := by
  unfold typeS; repeat' split
  all_goals decide
def attS (a : ByteArray) (k : Int) : ByteArray := ((((⟨#[97, 116, 116, 101, 109, 112, 116, 32, 116, 111, 32]⟩ : ByteArray) ++ a) ++ (⟨#[32, 97, 32]⟩ : ByteArray)) ++ typeS k) ++ (⟨#[32, 118, 97, 108, 117, 101]⟩ : ByteArray)
theorem att_is (a : ByteArray) (k n : Int) (s : ByteArray) (ha : a.size ≤ 100) : words_attempt.f a k n s = some (attS a k) := by
  have h := typeS_size k
  unfold words_attempt.f value_Type.f typeF
  rw [if_pos (by omega), if_pos (by simp only [ByteArray.size_append, sizeL, List.length_cons, List.length_nil]; omega)]
  simp only [Option.bind_some]
  rw [if_pos (by simp only [ByteArray.size_append, sizeL, List.length_cons, List.length_nil]; omega), if_pos (by simp only [ByteArray.size_append, sizeL, List.length_cons, List.length_nil]; omega)]
  rfl
abbrev aLen : ByteArray := ⟨#[103, 101, 116, 32, 108, 101, 110, 103, 116, 104, 32, 111, 102]⟩
abbrev aArith : ByteArray := ⟨#[112, 101, 114, 102, 111, 114, 109, 32, 97, 114, 105, 116, 104, 109, 101, 116, 105, 99, 32, 111, 110]⟩
abbrev aConcat : ByteArray := ⟨#[99, 111, 110, 99, 97, 116, 101, 110, 97, 116, 101]⟩
def cmpS (k k2 : Int) : ByteArray :=
  if (typeS k).toList = (typeS k2).toList then ((⟨#[97, 116, 116, 101, 109, 112, 116, 32, 116, 111, 32, 99, 111, 109, 112, 97, 114, 101, 32, 116, 119, 111, 32]⟩ : ByteArray) ++ typeS k) ++ (⟨#[32, 118, 97, 108, 117, 101, 115]⟩ : ByteArray)
  else (((⟨#[97, 116, 116, 101, 109, 112, 116, 32, 116, 111, 32, 99, 111, 109, 112, 97, 114, 101, 32]⟩ : ByteArray) ++ typeS k) ++ (⟨#[32, 119, 105, 116, 104, 32]⟩ : ByteArray)) ++ typeS k2
theorem len_is (k n : Int) (s : ByteArray) : words_Len.f k n s = some (attS aLen k) := by
  unfold words_Len.f; rw [att_is _ k n s (by decide)]; rfl
theorem arithW_is (k n : Int) (s : ByteArray) (k2 n2 : Int) (s2 : ByteArray) (hs : s.size ≤ 140737488351232) : words_Arith.f k n s k2 n2 s2 = some (attS aArith (if (numberT k n s).2 = true then k2 else k)) := by
  unfold words_Arith.f conv_Number.f numberF
  rw [if_pos hs]
  simp only [Option.bind_some]
  by_cases hb : (numberT k n s).2 = true
  · rw [if_pos hb, if_pos hb, att_is _ k2 n2 s2 (by decide)]; rfl
  · rw [if_neg hb, if_neg hb, att_is _ k n s (by decide)]; rfl
theorem concatW_is (k n : Int) (s : ByteArray) (k2 n2 : Int) (s2 : ByteArray) (hn : inR n) : words_Concat.f k n s k2 n2 s2 = some (attS aConcat (if (stringT k n s).2 = true then k2 else k)) := by
  unfold words_Concat.f conv_String.f stringF
  rw [if_pos hn]
  simp only [Option.bind_some]
  by_cases hb : (stringT k n s).2 = true
  · rw [if_pos hb, if_pos hb, att_is _ k2 n2 s2 (by decide)]; rfl
  · rw [if_neg hb, if_neg hb, att_is _ k n s (by decide)]; rfl
theorem cmp_is (k n : Int) (s : ByteArray) (k2 n2 : Int) (s2 : ByteArray) : words_Compare.f k n s k2 n2 s2 = some (cmpS k k2) := by
  have h := typeS_size k
  have h2 := typeS_size k2
  unfold words_Compare.f value_Type.f typeF cmpS
  simp only [Option.bind_some]
  by_cases hb : (typeS k).toList = (typeS k2).toList
  · rw [if_pos hb, if_pos hb, if_pos (by omega), if_pos (by simp only [ByteArray.size_append, sizeL, List.length_cons, List.length_nil]; omega)]
  · rw [if_neg hb, if_neg hb, if_pos (by omega), if_pos (by simp only [ByteArray.size_append, sizeL, List.length_cons, List.length_nil]; omega), if_pos (by simp only [ByteArray.size_append, sizeL, List.length_cons, List.length_nil]; omega)]
def blameT (op k n : Int) (s : ByteArray) (k2 n2 : Int) (s2 : ByteArray) : ByteArray :=
  if op = 11 then attS aConcat (if (stringT k n s).2 = true then k2 else k)
  else if op = 16 ∨ op = 17 then cmpS k2 k
  else if op = 14 ∨ op = 15 then cmpS k k2
  else if op = 23 then attS aLen k
  else if op = 20 ∨ op = 21 then attS aArith k
  else if op < 1 ∨ op > 10 then ⟨#[]⟩
  else attS aArith (if (numberT k n s).2 = true then k2 else k)
theorem blame_is (j : Nat) (op k n : Int) (s : ByteArray) (k2 n2 : Int) (s2 : ByteArray) (hn : inR n) (hs : s.size ≤ 140737488351232) : oper_Blame.f (j + 3) op k n s k2 n2 s2 = some (blameT op k n s k2 n2 s2) := by
  unfold oper_Blame.f blameT
  simp only [oper_Blame.j0, oper_Blame.j1, oper_Blame.j2, concatW_is k n s k2 n2 s2 hn, cmp_is, len_is, arithW_is k n s k2 n2 s2 hs, arithW_is k n s k n s hs, Option.bind_some, ite_self]
  by_cases h11 : op = 11
  · rw [if_pos h11, if_pos h11]
  rw [if_neg h11, if_neg h11]
  by_cases h16 : op = 16
  · subst h16; rfl
  rw [if_neg h16]
  by_cases h17 : op = 17
  · subst h17; rfl
  rw [if_neg (show ¬ ((op == 17) = true) by simpa using h17), if_neg (show ¬ (op = 16 ∨ op = 17) by omega)]
  by_cases h14 : op = 14
  · subst h14; rfl
  rw [if_neg h14]
  by_cases h15 : op = 15
  · subst h15; rfl
  rw [if_neg (show ¬ ((op == 15) = true) by simpa using h15), if_neg (show ¬ (op = 14 ∨ op = 15) by omega)]
  by_cases h23 : op = 23
  · rw [if_pos h23, if_pos h23]
  rw [if_neg h23, if_neg h23]
  by_cases h20 : op = 20
  · subst h20; rfl
  rw [if_neg h20]
  by_cases h21 : op = 21
  · subst h21; rfl
  rw [if_neg (show ¬ ((op == 21) = true) by simpa using h21), if_neg (show ¬ (op = 20 ∨ op = 21) by omega)]
  by_cases h1 : op < 1
  · rw [if_pos h1, if_pos (Or.inl h1)]
  rw [if_neg h1]
  by_cases h10 : op > 10
  · rw [if_pos h10, if_pos (Or.inr h10)]
  rw [if_neg h10, if_neg (show ¬ (op < 1 ∨ op > 10) by omega)]
def blameF (op k n : Int) (s : ByteArray) (k2 n2 : Int) (s2 : ByteArray) : Option ByteArray := if inR n ∧ s.size ≤ 140737488351232 then some (blameT op k n s k2 n2 s2) else none
theorem blame_calls (op k n : Int) (s : ByteArray) (k2 n2 : Int) (s2 : ByteArray) (r : ByteArray) (w : World) (hT : Tab w) (h : blameF op k n s k2 n2 s2 = some r) :
    Calls Tryz.prog 11 #[.int .i64 op, .agg #[.int .i64 k, .int .i64 n, .string s], .agg #[.int .i64 k2, .int .i64 n2, .string s2]] w fun e w' => e = .returned (.string r) ∧ Below w.heap.size w w' := by
  unfold blameF at h
  split at h
  · rename_i hc; exact oper_Blame.calls 3 op k n s k2 n2 s2 r w hT (by rw [blame_is 0 op k n s k2 n2 s2 hc.1 hc.2]; exact h)
  · cases h
def swapF (op : Int) : Option (Int × Bool × Bool) := oper_Swap.f op
theorem swap_calls (op r1 : Int) (r2 r3 : Bool) (w : World) (h : swapF op = some (r1, r2, r3)) :
    Calls Tryz.prog 7 #[.int .i64 op] w fun e w' => e = .returned (.tuple #[.int .i64 r1, .bool r2, .bool r3]) ∧ Below w.heap.size w w' := by
  refine (oper_Swap.calls op r1 r2 r3 w h).mono ?_
  rintro e w' ⟨rfl, hd⟩
  exact ⟨rfl, hd.below⟩
end Go.Proofs.YtpgpmldaggpciaaGreatDoor.GW
