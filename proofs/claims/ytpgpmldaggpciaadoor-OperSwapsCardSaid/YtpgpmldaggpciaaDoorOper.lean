/- What package oper makes of values, as a plain function, with the calls' contracts. -/
import Derived.Test.YtpgpmldaggpciaaDoorPDox2
import Derived.Test.YtpgpmldaggpciaaDoorPDox3
import Derived.Test.YtpgpmldaggpciaaDoorPDox4
set_option linter.unusedVariables false
set_option linter.unusedSimpArgs false
namespace Go.Proofs.YtpgpmldaggpciaaDoor.GW
open Go.RowKit Go.Proofs.YtpgpmldaggpciaaDoor.PDo Go.Proofs.YtpgpmldaggpciaaDoorW.PrintWords Go.Proofs.YtpgpmldaggpciaaDoorW.PrintLast Go.Proofs.YtpgpmldaggpciaaDoorW.PrintMore Go.Proofs.YtpgpmldaggpciaaDoor.Maths Go.Proofs.YtpgpmldaggpciaaDoor.TabW Go.Proofs.YtpgpmldaggpciaaDoor.Val
abbrev R4 := Int × Int × ByteArray × Int
def no (e : Int) : R4 := (0, 0, ⟨#[]⟩, e)
def bV (b : Bool) : R4 := (1, if b then 1 else 0, ⟨#[]⟩, 0)
def joinT (x y : ByteArray × Bool) (most : Int) : R4 :=
  if x.2 = true ∧ y.2 = true then (if (x.1.size : Int) + y.1.size > mx most 0 then no 3 else (3, 0, x.1 ++ y.1, 0)) else no 18
def arithT (op : Int) (x y : Int × Bool) : R4 :=
  if x.2 = true ∧ y.2 = true then (if Num.doE op x.1 y.1 = 0 then (2, Num.doN op x.1 y.1, ⟨#[]⟩, 0) else no (Num.doE op x.1 y.1)) else no 18
def baseT (o : Int) (turned : Bool) (k n : Int) (s : ByteArray) (k2 n2 : Int) (s2 : ByteArray) (most : Int) : R4 :=
  if o = 11 then joinT (stringT k n s) (stringT k2 n2 s2) most
  else if o = 12 then bV (rawB k n s k2 n2 s2 != turned)
  else if o = 15 then (if (lessB k2 n2 s2 k n s).2 = true then bV (!(lessB k2 n2 s2 k n s).1) else no 18)
  else if o = 14 then (if (lessB k n s k2 n2 s2).2 = true then bV ((lessB k n s k2 n2 s2).1 != turned) else no 18)
  else if o < 1 ∨ o > 10 then no 1
  else arithT o (numberT k n s) (numberT k2 n2 s2)
def doT (op k n : Int) (s : ByteArray) (k2 n2 : Int) (s2 : ByteArray) (most : Int) : R4 :=
  if op = 16 then baseT 14 false k2 n2 s2 k n s most else if op = 17 then baseT 15 false k2 n2 s2 k n s most
  else if op = 13 then baseT 12 true k n s k2 n2 s2 most else baseT op false k n s k2 n2 s2 most
abbrev inR (n : Int) : Prop := -9223372036854775808 ≤ n ∧ n ≤ 9223372036854775807
theorem itoaS_size (n : Int) (hn : inR n) : (itoaS n).size ≤ 21 := by
  unfold itoaS
  by_cases h : n < 0
  · obtain ⟨m, rfl⟩ : ∃ m : Nat, n = -(m : Int) := ⟨n.natAbs, by omega⟩
    rw [Conv03.itoa_neg m (by omega), sizeL, List.length_cons]
    have := Conv03.dec_len m (by omega); omega
  · obtain ⟨m, rfl⟩ := Int.eq_ofNat_of_zero_le (show 0 ≤ n by omega)
    rw [Conv03.itoa_pos m, sizeL]
    have := Conv03.dec_len m (by omega); omega
theorem stringT_size (k n : Int) (s : ByteArray) (hn : inR n) (hs : s.size ≤ 140737488351232) : (stringT k n s).1.size ≤ 140737488351232 := by
  have h := itoaS_size n hn
  unfold stringT
  split
  · show (itoaS n).size ≤ _; omega
  · split
    · exact hs
    · decide
theorem numL_range (l : List UInt8) (most : Nat) : inR (ConvP.numL l most).1 := by
  unfold ConvP.numL ConvP.roundF
  repeat' split
  all_goals first | exact wrap64_range _ | exact ⟨by decide, by decide⟩
theorem numberT_range (k n : Int) (s : ByteArray) (hn : inR n) : inR (numberT k n s).1 := by
  unfold numberT Conv03.toIntT
  split
  · exact hn
  · split
    · split
      · exact wrap64_range _
      · split <;> exact numL_range _ _
    · exact ⟨by decide, by decide⟩
theorem ofBool_is (b : Bool) : value_OfBool.f b = some (1, if b then 1 else 0, ⟨#[]⟩) := by cases b <;> rfl
theorem join_is (j : Nat) (k n : Int) (s : ByteArray) (k2 n2 : Int) (s2 : ByteArray) (most : Int) (hn : inR n) (hn2 : inR n2) (hs : s.size ≤ 140737488351232) (hs2 : s2.size ≤ 140737488351232) :
    oper_join.f (j + 1) k n s k2 n2 s2 most = some (joinT (stringT k n s) (stringT k2 n2 s2) most) := by
  have h1 := stringT_size k n s hn hs
  have h2 := stringT_size k2 n2 s2 hn2 hs2
  unfold oper_join.f conv_String.f stringF joinT no
  rw [if_pos hn, if_pos hn2]
  simp only [Option.bind_some]
  generalize stringT k n s = x at *
  generalize stringT k2 n2 s2 = y at *
  obtain ⟨x1, x2⟩ := x
  obtain ⟨y1, y2⟩ := y
  dsimp only at *
  cases x2
  · rw [if_neg (by decide), oper_join.j0, if_pos (by decide), if_neg (fun h => by cases h.1)]
  · cases y2
    · rw [if_pos rfl, oper_join.j0, if_pos (by decide), if_neg (fun h => by cases h.2)]
    · rw [if_pos rfl, oper_join.j0, if_neg (show ¬ ((!true) = true) by decide), if_pos (show true = true ∧ true = true from ⟨rfl, rfl⟩)]
      rw [wrap64_in (by omega)]
      split
      · rfl
      · rw [if_pos (by omega)]; rfl
theorem arith_is (o k n : Int) (s : ByteArray) (k2 n2 : Int) (s2 : ByteArray) (hn : inR n) (hn2 : inR n2) (hs : s.size ≤ 140737488351232) (hs2 : s2.size ≤ 140737488351232) :
    oper_arith.f o k n s k2 n2 s2 = some (arithT o (numberT k n s) (numberT k2 n2 s2)) := by
  have h2 := numberT_range k2 n2 s2 hn2
  unfold oper_arith.f oper_numbers.f conv_Number.f numberF arithT no
  rw [if_pos hs, if_pos hs2]
  simp only [Option.bind_some]
  generalize numberT k n s = x at *
  generalize numberT k2 n2 s2 = y at *
  obtain ⟨x1, x2⟩ := x
  obtain ⟨y1, y2⟩ := y
  have h2 : inR y1 := h2
  have hd : num_Do.f o x1 y1 = some (Num.doN o x1 y1, Num.doE o x1 y1) := by unfold num_Do.f numdoF; rw [if_pos h2]
  dsimp only at *
  cases x2
  · rw [if_neg (by decide), if_neg (fun h => by cases h.1)]; simp only [Option.bind_some]; rw [if_neg (by decide)]
  · cases y2
    · rw [if_pos rfl, if_neg (fun h => by cases h.2)]; simp only [Option.bind_some]; rw [if_neg (by decide)]
    · rw [if_pos rfl, if_pos ⟨rfl, rfl⟩]; simp only [Option.bind_some]
      rw [if_pos trivial, hd]; simp only [Option.bind_some]
      split
      · rfl
      · rfl
theorem base_is (j : Nat) (o : Int) (t : Bool) (k n : Int) (s : ByteArray) (k2 n2 : Int) (s2 : ByteArray) (most : Int) (hn : inR n) (hn2 : inR n2) (hs : s.size ≤ 140737488351232) (hs2 : s2.size ≤ 140737488351232) :
    oper_Do.j0 (j + 2) most o t k n s k2 n2 s2 = some (baseT o t k n s k2 n2 s2 most) := by
  unfold baseT bV no
  rw [oper_Do.j0, join_is j k n s k2 n2 s2 most hn hn2 hs hs2]
  simp only [Option.bind_some]
  by_cases h11 : o = 11
  · rw [if_pos h11, if_pos h11]
  rw [if_neg h11, if_neg h11]
  by_cases h12 : o = 12
  · rw [if_pos h12, if_pos h12]
    unfold value_Raw.f rawF
    simp only [Option.bind_some]
    rw [ofBool_is]; rfl
  rw [if_neg h12, if_neg h12]
  by_cases h15 : o = 15
  · rw [if_pos h15, if_pos h15]
    unfold value_Less.f lessF
    simp only [Option.bind_some]
    split
    · rw [ofBool_is]; rfl
    · rfl
  rw [if_neg h15, if_neg h15]
  by_cases h14 : o = 14
  · rw [if_pos h14, if_pos h14]
    unfold value_Less.f lessF
    simp only [Option.bind_some]
    split
    · rw [ofBool_is]; rfl
    · rfl
  rw [if_neg h14, if_neg h14]
  by_cases h1 : o < 1
  · rw [if_pos h1, oper_Do.j1, if_pos rfl, if_pos (Or.inl h1)]
  · rw [if_neg h1, oper_Do.j1]
    by_cases h10 : o > 10
    · rw [if_pos (decide_eq_true h10), if_pos (Or.inr h10)]
    · rw [if_neg (by simpa using h10), if_neg (by omega), arith_is o k n s k2 n2 s2 hn hn2 hs hs2]; rfl
theorem do_is (j : Nat) (op k n : Int) (s : ByteArray) (k2 n2 : Int) (s2 : ByteArray) (most : Int) (hn : inR n) (hn2 : inR n2) (hs : s.size ≤ 140737488351232) (hs2 : s2.size ≤ 140737488351232) :
    oper_Do.f (j + 2) op k n s k2 n2 s2 most = some (doT op k n s k2 n2 s2 most) := by
  unfold oper_Do.f oper_Swap.f doT
  by_cases h16 : op = 16
  · rw [if_pos h16, if_pos h16]; simp only [Option.bind_some, if_true]; exact base_is j 14 false _ _ _ _ _ _ _ hn2 hn hs2 hs
  rw [if_neg h16, if_neg h16]
  by_cases h17 : op = 17
  · rw [if_pos h17, if_pos h17]; simp only [Option.bind_some, if_true]; exact base_is j 15 false _ _ _ _ _ _ _ hn2 hn hs2 hs
  rw [if_neg h17, if_neg h17]
  by_cases h13 : op = 13
  · rw [if_pos h13, if_pos h13]; simp only [Option.bind_some]; rw [if_neg (by decide)]; exact base_is j 12 true _ _ _ _ _ _ _ hn hn2 hs hs2
  rw [if_neg h13, if_neg h13]; simp only [Option.bind_some]; rw [if_neg (by decide)]; exact base_is j op false _ _ _ _ _ _ _ hn hn2 hs hs2
def doF (op k n : Int) (s : ByteArray) (k2 n2 : Int) (s2 : ByteArray) (most : Int) : Option R4 :=
  if inR n ∧ inR n2 ∧ s.size ≤ 140737488351232 ∧ s2.size ≤ 140737488351232 then some (doT op k n s k2 n2 s2 most) else none
theorem do_calls (op k n : Int) (s : ByteArray) (k2 n2 : Int) (s2 : ByteArray) (most : Int) (r1 r2 : Int) (r3 : ByteArray) (r4 : Int) (w : World) (hT : Tab w) (h : doF op k n s k2 n2 s2 most = some (r1, r2, r3, r4)) :
    Calls Tryd.prog 46 #[.int .i64 op, .agg #[.int .i64 k, .int .i64 n, .string s], .agg #[.int .i64 k2, .int .i64 n2, .string s2], .int .i64 most] w fun e w' => e = .returned (.tuple #[.agg #[.int .i64 r1, .int .i64 r2, .string r3], .int .i64 r4]) ∧ Below w.heap.size w w' := by
  unfold doF at h
  split at h
  · rename_i hc; exact oper_Do.calls 2 op k n s k2 n2 s2 most r1 r2 r3 r4 w hT (by rw [do_is 0 op k n s k2 n2 s2 most hc.1 hc.2.1 hc.2.2.1 hc.2.2.2]; exact h)
  · cases h
def oneT (op k n : Int) (s : ByteArray) : R4 :=
  if op = 22 then bV (!truthB k n) else if op = 23 then (if k = 3 then (2, (s.size : Int), ⟨#[]⟩, 0) else no 18)
  else if op = 20 ∨ op = 21 then (if (numberT k n s).2 = true then (2, if op = 20 then wrap64 (-(numberT k n s).1) else Go.bits .xor .i64 (-1) (numberT k n s).1, ⟨#[]⟩, 0) else no 18) else no 1
theorem one_is (j : Nat) (op k n : Int) (s : ByteArray) (hs : s.size ≤ 140737488351232) : oper_One.f (j + 1) op k n s = some (oneT op k n s) := by
  unfold oper_One.f oneT bV no
  by_cases h22 : op = 22
  · rw [if_pos h22, if_pos h22]
    unfold value_Truth.f truthF
    simp only [Option.bind_some]
    rw [ofBool_is]; rfl
  rw [if_neg h22, if_neg h22]
  by_cases h23 : op = 23
  · rw [if_pos h23, if_pos h23]; split <;> rfl
  rw [if_neg h23, if_neg h23]
  simp only [oper_One.j0, conv_Number.f, numberF, if_pos hs, Option.bind_some]
  by_cases h20 : op = 20
  · subst h20
    rw [if_pos rfl, if_pos (by decide), if_pos (Or.inl rfl)]
    split
    · rfl
    · rfl
  rw [if_neg h20]
  by_cases h21 : op = 21
  · subst h21
    rw [if_pos (by decide), if_pos (Or.inr rfl)]
    split
    · rfl
    · rfl
  · rw [if_neg (by simpa using h21), if_neg (by omega)]
def oneF (op k n : Int) (s : ByteArray) : Option R4 := if s.size ≤ 140737488351232 then some (oneT op k n s) else none
theorem one_calls (op k n : Int) (s : ByteArray) (r1 r2 : Int) (r3 : ByteArray) (r4 : Int) (w : World) (hT : Tab w) (h : oneF op k n s = some (r1, r2, r3, r4)) :
    Calls Tryd.prog 56 #[.int .i64 op, .agg #[.int .i64 k, .int .i64 n, .string s]] w fun e w' => e = .returned (.tuple #[.agg #[.int .i64 r1, .int .i64 r2, .string r3], .int .i64 r4]) ∧ Below w.heap.size w w' := by
  unfold oneF at h
  split at h
  · rename_i hc; exact oper_One.calls 1 op k n s r1 r2 r3 r4 w hT (by rw [one_is 0 op k n s hc]; exact h)
  · cases h
end Go.Proofs.YtpgpmldaggpciaaDoor.GW
