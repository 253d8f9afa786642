/- What package oper makes of values, as plain functions. -/
import Derived.Test.YtpgpmldaggpciaaDoorGivenA
import Derived.Test.YtpgpmldaggpciaaDoorValH
import Derived.Test.YtpgpmldaggpciaaDoorNum
import Derived.Test.YtpgpmldaggpciaaDoorPAllx2
set_option linter.unusedVariables false
set_option linter.unusedSimpArgs false
namespace Go.Proofs.YtpgpmldaggpciaaDoor.GW
open Go.RowKit Go.Proofs.YtpgpmldaggpciaaDoor.PAll Go.Proofs.YtpgpmldaggpciaaDoorW.PrintWords Go.Proofs.YtpgpmldaggpciaaDoorW.PrintLast Go.Proofs.YtpgpmldaggpciaaDoorW.PrintMore Go.Proofs.YtpgpmldaggpciaaDoor.Maths Go.Proofs.YtpgpmldaggpciaaDoor.TabW Go.Proofs.YtpgpmldaggpciaaDoor.Val
abbrev R4 := Int × Int × ByteArray × Int
def no (e : Int) : R4 := (0, 0, ⟨#[]⟩, e)
def bV (b : Bool) : R4 := (1, if b then 1 else 0, ⟨#[]⟩, 0)
def joinT (x y : ByteArray × Bool) (most : Int) : R4 :=
  if x.2 = true ∧ y.2 = true then (if (x.1.size : Int) + y.1.size > mx most 0 then no 3 else (3, 0, x.1 ++ y.1, 0)) else no 18
def arithT (op : Int) (x y : Int × Bool) : R4 :=
  if x.2 = true ∧ y.2 = true then (if Num.doE op x.1 y.1 = 0 then (2, Num.doN op x.1 y.1, ⟨#[]⟩, 0) else no (Num.doE op x.1 y.1)) else no 18
def baseT (o : Int) (turned : Bool) (k n : Int) (s : ByteArray) (k2 n2 : Int) (s2 : ByteArray) (most : Int) : R4 :=
  if o = 11 then joinT (stringT k n s) (stringT k2 n2 s2) most
  else if o = 12 then bV (rawB k n s k2 n2 s2 != turned)
  else if o = 15 then (if (lessB k2 n2 s2 k n s).2 = true then bV (!(lessB k2 n2 s2 k n s).1) else no 18)
  else if o = 14 then (if (lessB k n s k2 n2 s2).2 = true then bV ((lessB k n s k2 n2 s2).1 != turned) else no 18)
  else if o < 1 ∨ o > 10 then no 1
  else arithT o (numberT k n s) (numberT k2 n2 s2)
def doT (op k n : Int) (s : ByteArray) (k2 n2 : Int) (s2 : ByteArray) (most : Int) : R4 :=
  if op = 16 then baseT 14 false k2 n2 s2 k n s most else if op = 17 then baseT 15 false k2 n2 s2 k n s most
  else if op = 13 then baseT 12 true k n s k2 n2 s2 most else baseT op false k n s k2 n2 s2 most
abbrev inR (n : Int) : Prop := -9223372036854775808 ≤ n ∧ n ≤ 9223372036854775807
theorem itoaS_size (n : Int) (hn : inR n) : (itoaS n).size ≤ 21 := by
  unfold itoaS
  by_cases h : n < 0
  · obtain ⟨m, rfl⟩ : ∃ m : Nat, n = -(m : Int) := ⟨n.natAbs, by omega⟩
    rw [Conv03.itoa_neg m (by omega), sizeL, List.length_cons]
    have := Conv03.dec_len m (by omega); omega
  · obtain ⟨m, rfl⟩ := Int.eq_ofNat_of_zero_le (show 0 ≤ n by omega)
    rw [Conv03.itoa_pos m, sizeL]
    have := Conv03.dec_len m (by omega); omega
theorem stringT_size (k n : Int) (s : ByteArray) (hn : inR n) (hs : s.size ≤ 140737488351232) : (stringT k n s).1.size ≤ 140737488351232 := by
  have h := itoaS_size n hn
  unfold stringT
  split
  · show (itoaS n).size ≤ _; omega
  · split
    · exact hs
    · decide
theorem numL_range (l : List UInt8) (most : Nat) : inR (ConvP.numL l most).1 := by
  unfold ConvP.numL ConvP.roundF
  repeat' split
  all_goals first | exact wrap64_range _ | exact ⟨by decide, by decide⟩
theorem numberT_range (k n : Int) (s : ByteArray) (hn : inR n) : inR (numberT k n s).1 := by
  unfold numberT Conv03.toIntT
  split
  · exact hn
  · split
    · split
      · exact wrap64_range _
      · split <;> exact numL_range _ _
    · exact ⟨by decide, by decide⟩
def oneT (op k n : Int) (s : ByteArray) : R4 :=
  if op = 22 then bV (!truthB k n) else if op = 23 then (if k = 3 then (2, (s.size : Int), ⟨#[]⟩, 0) else no 18)
  else if op = 20 ∨ op = 21 then (if (numberT k n s).2 = true then (2, if op = 20 then wrap64 (-(numberT k n s).1) else Go.bits .xor .i64 (-1) (numberT k n s).1, ⟨#[]⟩, 0) else no 18) else no 1
def numdoF (op a b : Int) : Option (Int × Int) := if -9223372036854775808 ≤ b ∧ b ≤ 9223372036854775807 then some (Num.doN op a b, Num.doE op a b) else none
def numoneF (op a : Int) : Option (Int × Int) := num_One.f op a
theorem numdo_calls (op a b r1 r2 : Int) (w : World) (h : numdoF op a b = some (r1, r2)) :
    Calls Tryd.prog 93 #[.int .i64 op, .int .i64 a, .int .i64 b] w fun e w' => e = .returned (.tuple #[.int .i64 r1, .int .i64 r2]) ∧ Below w.heap.size w w' := by
  unfold numdoF at h
  split at h
  · rename_i hb
    refine (num_Do.calls 2 op a b r1 r2 w (by rw [Num.do_is 0 op a b hb]; exact h)).mono ?_
    rintro e w' ⟨rfl, hd⟩
    exact ⟨rfl, hd.below⟩
  · cases h
theorem numone_calls (op a r1 r2 : Int) (w : World) (h : numoneF op a = some (r1, r2)) :
    Calls Tryd.prog 74 #[.int .i64 op, .int .i64 a] w fun e w' => e = .returned (.tuple #[.int .i64 r1, .int .i64 r2]) ∧ Below w.heap.size w w' := by
  refine (num_One.calls op a r1 r2 w h).mono ?_
  rintro e w' ⟨rfl, hd⟩
  exact ⟨rfl, hd.below⟩
end Go.Proofs.YtpgpmldaggpciaaDoor.GW
