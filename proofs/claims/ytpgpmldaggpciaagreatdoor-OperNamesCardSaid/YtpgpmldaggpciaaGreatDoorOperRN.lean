/- What the reference of layer 11 answers (Blame, Swap), as the plain functions of package oper; the calls' contracts. -/
import Derived.Test.YtpgpmldaggpciaaGreatDoorBlameN
import Derived.Test.YtpgpmldaggpciaaGreatDoorPRnm0
set_option linter.unusedVariables false
set_option linter.unusedSimpArgs false
namespace Go.Proofs.YtpgpmldaggpciaaGreatDoor.GW
open Go.RowKit Go.Proofs.YtpgpmldaggpciaaGreatDoor.PRn Go.Proofs.YtpgpmldaggpciaaGreatDoorW.PrintWords Go.Proofs.YtpgpmldaggpciaaGreatDoorW.PrintLast Go.Proofs.YtpgpmldaggpciaaGreatDoorW.PrintMore Go.Proofs.YtpgpmldaggpciaaGreatDoor.Maths Go.Proofs.YtpgpmldaggpciaaGreatDoor.TabW
theorem rarithW_is (k n : Int) (s : ByteArray) (k2 n2 : Int) (s2 : ByteArray) (hs : s.size ≤ 140737488351232) : selkieref10_Arith.f k n s k2 n2 s2 = some (attS aArith (if (numberT k n s).2 = true then k2 else k)) := by
  have h := typeS_size k
  have h2 := typeS_size k2
  unfold selkieref10_Arith.f selkieref01_Type.f selkieref03_Number.f rnumberF numberF rtypeF typeF attS
  rw [if_pos hs]
  simp only [Option.bind_some]
  by_cases hb : (numberT k n s).2 = true
  · rw [if_pos hb, if_pos hb, if_pos (by omega), if_pos (by simp only [ByteArray.size_append, sizeL, List.length_cons, List.length_nil]; omega)]
    exact congrArg some (congrArg (· ++ _) (congrArg (· ++ _) (by decide +kernel)))
  · rw [if_neg hb, if_neg hb, if_pos (by omega), if_pos (by simp only [ByteArray.size_append, sizeL, List.length_cons, List.length_nil]; omega)]
    exact congrArg some (congrArg (· ++ _) (congrArg (· ++ _) (by decide +kernel)))
theorem rconcatW_is (k n : Int) (s : ByteArray) (k2 n2 : Int) (s2 : ByteArray) (hn : inR n) : selkieref10_Concat.f k n s k2 n2 s2 = some (attS aConcat (if (stringT k n s).2 = true then k2 else k)) := by
  have h := typeS_size k
  have h2 := typeS_size k2
  unfold selkieref10_Concat.f selkieref01_Type.f selkieref03_String.f rstringF stringF rtypeF typeF attS
  rw [if_pos hn]
  simp only [Option.bind_some]
  by_cases hb : (stringT k n s).2 = true
  · rw [if_pos hb, if_pos hb, if_pos (by omega), if_pos (by simp only [ByteArray.size_append, sizeL, List.length_cons, List.length_nil]; omega)]
    exact congrArg some (congrArg (· ++ _) (congrArg (· ++ _) (by decide +kernel)))
  · rw [if_neg hb, if_neg hb, if_pos (by omega), if_pos (by simp only [ByteArray.size_append, sizeL, List.length_cons, List.length_nil]; omega)]
    exact congrArg some (congrArg (· ++ _) (congrArg (· ++ _) (by decide +kernel)))
theorem rcmp_is (k n : Int) (s : ByteArray) (k2 n2 : Int) (s2 : ByteArray) : selkieref10_Compare.f k n s k2 n2 s2 = some (cmpS k k2) := by
  have h := typeS_size k
  have h2 := typeS_size k2
  unfold selkieref10_Compare.f selkieref01_Type.f rtypeF typeF cmpS
  simp only [Option.bind_some]
  by_cases hb : (typeS k).toList = (typeS k2).toList
  · rw [if_pos hb, if_pos hb, if_pos (by omega), if_pos (by simp only [ByteArray.size_append, sizeL, List.length_cons, List.length_nil]; omega)]
  · rw [if_neg hb, if_neg hb, if_pos (by omega), if_pos (by simp only [ByteArray.size_append, sizeL, List.length_cons, List.length_nil]; omega), if_pos (by simp only [ByteArray.size_append, sizeL, List.length_cons, List.length_nil]; omega)]
theorem rlen_is (k n : Int) (s : ByteArray) : selkieref10_Len.f k n s = some (attS aLen k) := by
  have h := typeS_size k
  unfold selkieref10_Len.f selkieref01_Type.f rtypeF typeF attS
  simp only [Option.bind_some]
  rw [if_pos (by omega), if_pos (by simp only [ByteArray.size_append, sizeL, List.length_cons, List.length_nil]; omega)]
  exact congrArg some (congrArg (· ++ _) (congrArg (· ++ _) (by decide +kernel)))
theorem rblame_is (j : Nat) (op k n : Int) (s : ByteArray) (k2 n2 : Int) (s2 : ByteArray) (hn : inR n) (hs : s.size ≤ 140737488351232) : selkieref11_Blame.f (j + 4) op k n s k2 n2 s2 = some (blameT op k n s k2 n2 s2) := by
  unfold selkieref11_Blame.f blameT
  have harr : selkieref10_Arith.f k n s k n s = some (attS aArith k) := by rw [rarithW_is k n s k n s hs, ite_self]
  simp only [selkieref11_Blame.j0, selkieref11_Blame.j1, selkieref11_Blame.j2, selkieref11_Blame.j3, rconcatW_is k n s k2 n2 s2 hn, rcmp_is, rlen_is, rarithW_is k n s k2 n2 s2 hs, harr, Option.bind_some]
  by_cases h11 : op = 11
  · subst h11; rfl
  rw [if_neg (show ¬ op = 11 from h11), if_neg h11]
  by_cases h16 : op = 16
  · subst h16; rfl
  by_cases h17 : op = 17
  · subst h17; rfl
  by_cases h14 : op = 14
  · subst h14; rfl
  by_cases h15 : op = 15
  · subst h15; rfl
  by_cases h23 : op = 23
  · subst h23; rfl
  by_cases h20 : op = 20
  · subst h20; rfl
  by_cases h21 : op = 21
  · subst h21; rfl
  have e15 : (op == 15) = false := by simpa using h15
  have e17 : (op == 17) = false := by simpa using h17
  have e21 : (op == 21) = false := by simpa using h21
  rw [if_neg (show ¬ (op = 16 ∨ op = 17) by omega), if_neg (show ¬ (op = 14 ∨ op = 15) by omega), if_neg h23, if_neg (show ¬ (op = 20 ∨ op = 21) by omega)]
  simp only [h14, h16, h20, h23, e15, e17, e21, if_false, Bool.false_eq_true]
  by_cases h1 : op ≥ 1
  · rw [if_pos h1]
    by_cases h10 : op ≤ 10
    · rw [if_pos (decide_eq_true h10), if_neg (show ¬ (op < 1 ∨ op > 10) by omega)]
    · rw [if_neg (by simpa using h10), if_pos (show op < 1 ∨ op > 10 by omega)]
  · rw [if_neg h1, if_pos (show op < 1 ∨ op > 10 by omega)]
def rblameF (op k n : Int) (s : ByteArray) (k2 n2 : Int) (s2 : ByteArray) : Option ByteArray := if inR n ∧ s.size ≤ 140737488351232 then some (blameT op k n s k2 n2 s2) else none
theorem rblame_calls (op k n : Int) (s : ByteArray) (k2 n2 : Int) (s2 : ByteArray) (r : ByteArray) (w : World) (hT : Tab w) (h : rblameF op k n s k2 n2 s2 = some r) :
    Calls Tryz.prog 12 #[.int .i64 op, .agg #[.int .i64 k, .int .i64 n, .string s], .agg #[.int .i64 k2, .int .i64 n2, .string s2]] w fun e w' => e = .returned (.string r) ∧ Below w.heap.size w w' := by
  unfold rblameF at h
  split at h
  · rename_i hc; exact selkieref11_Blame.calls 4 op k n s k2 n2 s2 r w hT (by rw [rblame_is 0 op k n s k2 n2 s2 hc.1 hc.2]; exact h)
  · cases h
theorem rswap_is (op : Int) : selkieref11_Swap.f 1 op = PBl.oper_Swap.f op := by
  unfold selkieref11_Swap.f PBl.oper_Swap.f
  simp only [selkieref11_Swap.j0]
  by_cases h16 : op = 16
  · subst h16; rw [if_pos rfl, if_pos rfl, if_pos (by decide), wrap64_in (by decide)]; rfl
  rw [if_neg h16, if_neg h16]
  by_cases h17 : op = 17
  · subst h17; rw [if_pos (by decide), if_pos rfl, wrap64_in (by decide)]; rfl
  rw [if_neg (show ¬ ((op == 17) = true) by simpa using h17), if_neg h17]
def rswapF (op : Int) : Option (Int × Bool × Bool) := PBl.oper_Swap.f op
theorem rswap_calls (op r1 : Int) (r2 r3 : Bool) (w : World) (h : rswapF op = some (r1, r2, r3)) :
    Calls Tryz.prog 8 #[.int .i64 op] w fun e w' => e = .returned (.tuple #[.int .i64 r1, .bool r2, .bool r3]) ∧ Below w.heap.size w w' := by
  refine (selkieref11_Swap.calls 1 op r1 r2 r3 w (by rw [rswap_is]; exact h)).mono ?_
  rintro e w' ⟨rfl, hd⟩
  exact ⟨rfl, by first | exact hd.below | exact hd⟩
end Go.Proofs.YtpgpmldaggpciaaGreatDoor.GW
