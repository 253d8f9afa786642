/- conv and its reference: trim, ToInt, Base. -/
import Derived.Test.YtpgpmldaggpciaaDoorConvA
import Derived.Test.YtpgpmldaggpciaaDoorPAllx1
import Derived.Test.YtpgpmldaggpciaaDoorPAllx2
set_option linter.unusedVariables false
set_option linter.unusedSimpArgs false
namespace Go.Proofs.YtpgpmldaggpciaaDoor.Conv03
open Go.RowKit Go.Proofs.YtpgpmldaggpciaaDoor.PAll Go.Proofs.YtpgpmldaggpciaaDoorW.PrintWords Go.Proofs.YtpgpmldaggpciaaDoorW.PrintLast Go.Proofs.YtpgpmldaggpciaaDoorW.PrintMore Go.Proofs.YtpgpmldaggpciaaDoor.Maths Go.Proofs.YtpgpmldaggpciaaDoor.ConvP Go.Proofs.YtpgpmldaggpciaaDoor.TabW
theorem pdigit_eq : ∀ k x, PAll.conv_digit.f k x = PA.conv_digit.f k x := by
  have e1 : ∀ k a b c, PAll.conv_digit.j1 k a b c = PA.conv_digit.j1 k a b c := by
    intro k a b c; cases k with
    | zero => rw [PAll.conv_digit.j1, PA.conv_digit.j1]
    | succ k => rw [PAll.conv_digit.j1, PA.conv_digit.j1]
  have e0 : ∀ k a b c, PAll.conv_digit.j0 k a b c = PA.conv_digit.j0 k a b c := by
    intro k a b c; cases k with
    | zero => rw [PAll.conv_digit.j0, PA.conv_digit.j0]
    | succ k => rw [PAll.conv_digit.j0, PA.conv_digit.j0, e1, e1]
  intro k x; unfold PAll.conv_digit.f PA.conv_digit.f; rw [e0, e0]
theorem pround_eq : ∀ k a b c d e, PAll.conv_round.l0 k a b c d e = PA.conv_round.l0 k a b c d e := by
  intro k; induction k with
  | zero => intro a b c d e; rw [PAll.conv_round.l0, PA.conv_round.l0]
  | succ k ih => intro a b c d e; rw [PAll.conv_round.l0, PA.conv_round.l0]; simp only [ih, pdigit_eq]
theorem pround_is (s : ByteArray) (b : Nat) (hb : 2 ≤ b ∧ b ≤ 36) (hs : s.size ≤ 9223372036854775806) (k : Nat) (hk : s.size + 4 ≤ k) : conv_round.f k s (b : Int) = some (roundF b s.data.toList) := by
  unfold conv_round.f roundF valD; rw [pround_eq]
  have h := round_loop s b hb hs s.size k 0 0 (by omega) (by omega)
  have h0 : wrap64 ((0 : Nat) : Int) = 0 := wrap64_in (by decide)
  rw [h0, List.drop_zero] at h
  exact h
theorem pcut_is (s p : ByteArray) (hp : p.size ≤ 9223372036854775807) : strings_CutPrefix.f s p = some (if p.data.toList.isPrefixOf s.data.toList = true then (s.extract p.size s.size, true) else (s, false)) := cut_is s p hp
/-- blanks -/
def ws : List UInt8 := [9, 10, 11, 12, 13, 32]
def blank (c : UInt8) : Bool := decide ((9 ≤ c.toNat ∧ c.toNat ≤ 13) ∨ c.toNat = 32)
theorem ws_mem (c : UInt8) : ws.contains c = blank c := by
  unfold blank
  rw [Bool.eq_iff_iff, decide_eq_true_eq]; unfold ws
  simp only [List.contains_iff_mem, List.mem_cons, List.not_mem_nil, or_false]
  have e : ∀ k : UInt8, c = k ↔ c.toNat = k.toNat := fun k => ⟨fun h => by rw [h], fun h => UInt8.toNat_inj.1 h⟩
  simp only [e]; simp; omega
def ltrim (l : List UInt8) : List UInt8 := l.dropWhile blank
def rtrim (l : List UInt8) : List UInt8 := (l.reverse.dropWhile blank).reverse
def trimL (l : List UInt8) : List UInt8 := ltrim (rtrim l)
theorem trimL_is (l : List UInt8) : Lib.trimS l ws = trimL l := by
  have : (fun c => ws.contains c) = blank := funext ws_mem
  unfold Lib.trimS Lib.trimLeftS Lib.trimRightS trimL ltrim rtrim
  rw [this]
theorem rtrim_cons (c : UInt8) (l : List UInt8) : rtrim (c :: l) = if (l.reverse.dropWhile blank).isEmpty then (if blank c then [] else [c]) else c :: rtrim l := by
  unfold rtrim
  rw [List.reverse_cons, List.dropWhile_append]
  by_cases h : (l.reverse.dropWhile blank).isEmpty = true
  · rw [if_pos h, if_pos h, List.dropWhile_cons]; by_cases hb : blank c = true
    · rw [if_pos hb, if_pos hb]; rfl
    · rw [if_neg hb, if_neg hb]; rfl
  · rw [if_neg h, if_neg h, List.reverse_append]; rfl
theorem trim_comm : ∀ l : List UInt8, rtrim (ltrim l) = trimL l
  | [] => rfl
  | c :: l => by
    have ih := trim_comm l
    unfold trimL at ih ⊢
    rw [rtrim_cons]
    have el : ltrim (c :: l) = if blank c then ltrim l else c :: l := by unfold ltrim; rw [List.dropWhile_cons]
    rw [el]
    by_cases hb : blank c = true
    · rw [if_pos hb, if_pos hb, ih]
      by_cases h : (l.reverse.dropWhile blank).isEmpty = true
      · rw [if_pos h]
        have : rtrim l = [] := by unfold rtrim; rw [List.isEmpty_iff.1 h]; rfl
        rw [this]
      · rw [if_neg h]; unfold ltrim; rw [List.dropWhile_cons, if_pos hb]
    · rw [if_neg hb, if_neg hb, rtrim_cons, if_neg hb]
      by_cases h : (l.reverse.dropWhile blank).isEmpty = true
      · rw [if_pos h]; unfold ltrim; rw [List.dropWhile_cons, if_neg hb]
      · rw [if_neg h]; unfold ltrim; rw [List.dropWhile_cons, if_neg hb]
theorem mk_list (s : ByteArray) (l : List UInt8) (h : s.data.toList = l) : s = ⟨l.toArray⟩ := by subst h; apply WideShapes.bytes_inj; simp
theorem ends (c : UInt8) (x y : Option ByteArray) :
    (if (c.toNat : Int) ≥ 9 then (if (c.toNat : Int) ≤ 13 then x else (if (c.toNat : Int) = 32 then x else y)) else (if (c.toNat : Int) = 32 then x else y)) = if blank c = true then x else y := by
  unfold blank
  by_cases h : (9 ≤ c.toNat ∧ c.toNat ≤ 13) ∨ c.toNat = 32
  · rw [decide_eq_true h, if_pos rfl]
    by_cases h1 : (c.toNat : Int) ≥ 9
    · rw [if_pos h1]; by_cases h2 : (c.toNat : Int) ≤ 13
      · rw [if_pos h2]
      · rw [if_neg h2, if_pos (by omega)]
    · rw [if_neg h1, if_pos (by omega)]
  · rw [decide_eq_false h, if_neg (show ¬ (false = true) by decide)]
    by_cases h1 : (c.toNat : Int) ≥ 9
    · rw [if_pos h1, if_neg (by omega), if_neg (by omega)]
    · rw [if_neg h1, if_neg (by omega)]
def trimB (s : ByteArray) : ByteArray := ⟨(trimL s.data.toList).toArray⟩
theorem trimB_list (s : ByteArray) : (trimB s).data.toList = trimL s.data.toList := by simp [trimB]
theorem trimB_size (s : ByteArray) : (trimB s).size ≤ s.size := by
  rw [← size_list, ← size_list, trimB_list]
  unfold trimL ltrim rtrim
  refine Nat.le_trans (List.dropWhile_sublist _).length_le ?_
  rw [List.length_reverse]
  refine Nat.le_trans (List.dropWhile_sublist _).length_le ?_
  rw [List.length_reverse]; exact Nat.le_refl _
theorem ptrim_is (s : ByteArray) (hs : s.size ≤ 9223372036854775806) : strings_Trim.f s ⟨#[9, 10, 11, 12, 13, 32]⟩ = some (trimB s) := by
  unfold strings_Trim.f trimF
  rw [if_pos ⟨by omega, by decide +kernel, by decide⟩]
  have : Lib.trimS s.data.toList (⟨#[9, 10, 11, 12, 13, 32]⟩ : ByteArray).data.toList = trimL s.data.toList := trimL_is _
  rw [this]; rfl
/-- a sign ahead -/
def ahead (c : UInt8) (s : ByteArray) : Bool := [c].isPrefixOf s.data.toList
theorem ahead_iff (c : UInt8) (s : ByteArray) : ahead c s = true ↔ 0 < s.size ∧ bt s 0 = (c.toNat : Int) := by
  unfold ahead
  have hz := size_list s
  cases hl : s.data.toList with
  | nil => rw [hl] at hz; simp at hz; simp; omega
  | cons a l =>
    rw [hl] at hz; simp at hz
    have := selkByte s 0 (by omega)
    simp only [hl, List.getElem_cons_zero] at this
    have e : bt s 0 = (a.toNat : Int) := this
    rw [e]
    simp
    constructor
    · rintro rfl; exact ⟨by omega, rfl⟩
    · rintro ⟨_, h⟩; exact (UInt8.toNat_inj.1 (by omega)).symm
theorem cut1_is (s : ByteArray) (c : UInt8) : strings_CutPrefix.f s ⟨#[c]⟩ = some (if ahead c s = true then (s.extract 1 s.size, true) else (s, false)) := by
  rw [pcut_is s _ (by show (1 : Nat) ≤ _; decide)]; rfl
theorem ext1_size (s : ByteArray) : (s.extract 1 s.size).size ≤ s.size := by rw [ByteArray.size_extract]; omega
theorem ext1_list (s : ByteArray) : (s.extract 1 s.size).data.toList = s.data.toList.drop 1 := by rw [ext_list, List.take_of_length_le (by rw [List.length_drop, size_list]; omega)]
def toIntT (t : ByteArray) : Int × Bool :=
  if ahead 45 t = true then (wrap64 (-(numL (t.data.toList.drop 1) 9223372036854775808).1), (numL (t.data.toList.drop 1) 9223372036854775808).2)
  else if ahead 43 t = true then numL (t.data.toList.drop 1) 9223372036854775807 else numL t.data.toList 9223372036854775807
theorem num_is (s : ByteArray) (most : Int) (hs : s.size ≤ 140737488351232) (hm : 0 ≤ most ∧ most ≤ 18446744073709551615) : conv_numeral.f s most = some (numL s.data.toList most.toNat) := by
  unfold conv_numeral.f numF; rw [if_pos ⟨hs, hm⟩]
theorem toInt_is (s : ByteArray) (hs : s.size ≤ 140737488351232) : conv_ToInt.f s = some (toIntT (trimB s)) := by
  have ht := trimB_size s
  unfold conv_ToInt.f toIntT
  rw [ptrim_is s (by omega)]; simp only [Option.bind_some]
  generalize trimB s = t at ht ⊢
  have h1 := ext1_size t
  rw [cut1_is t 45, cut1_is t 43]
  by_cases hm : ahead 45 t = true
  · rw [if_pos hm, if_pos hm]; simp only [Option.bind_some, if_true]
    rw [num_is _ _ (by omega) (by decide), ext1_list]; rfl
  · rw [if_neg hm, if_neg hm]; simp only [Option.bind_some, if_neg (show ¬ (false = true) by decide)]
    by_cases hp : ahead 43 t = true
    · rw [if_pos hp, if_pos hp]; simp only [Option.bind_some]
      rw [numeral_is _ (by omega), ext1_list]; rfl
    · rw [if_neg hp, if_neg hp]; simp only [Option.bind_some]
      rw [numeral_is _ (by omega)]; rfl
theorem negB (n : Int) : wrap64 (IntKind.u64.wrap (-(IntKind.u64.wrap n))) = wrap64 (-n) := by
  apply B_inj (wrap64_range _) (wrap64_range _)
  simp only [B_wrap, B_u64, B_neg]
def baseT (b : Int) (t : ByteArray) : Int × Bool :=
  if b < 2 ∨ b > 36 then (0, false) else if ahead 45 t = true then (wrap64 (-(roundF b.toNat (t.data.toList.drop 1)).1), (roundF b.toNat (t.data.toList.drop 1)).2) else roundF b.toNat t.data.toList
theorem base_is (s : ByteArray) (b : Int) (hs : s.size ≤ 140737488351232) (k : Nat) (hk : s.size + 6 ≤ k) : conv_Base.f k s b = some (baseT b (trimB s)) := by
  have ht := trimB_size s
  unfold conv_Base.f baseT
  obtain ⟨k, rfl⟩ : ∃ m, k = m + 1 := ⟨k - 1, by omega⟩
  by_cases hb : b < 2 ∨ b > 36
  · rw [if_pos hb]
    rcases hb with h | h
    · rw [if_pos h]; rfl
    · by_cases h2 : b < 2
      · rw [if_pos h2]; rfl
      · rw [if_neg h2, decide_eq_true h]; rfl
  · rw [if_neg hb, if_neg (by omega), decide_eq_false (by omega), conv_Base.j0, if_neg (by decide), ptrim_is s (by omega)]; simp only [Option.bind_some]
    generalize trimB s = t at ht ⊢
    have h1 := ext1_size t
    obtain ⟨n, rfl⟩ := Int.eq_ofNat_of_zero_le (show 0 ≤ b by omega)
    rw [cut1_is t 45, Int.toNat_natCast]
    by_cases hm : ahead 45 t = true
    · rw [if_pos hm, if_pos hm]; simp only [Option.bind_some, if_true]
      rw [pround_is _ n (by omega) (by omega) k (by omega), ext1_list]; rfl
    · rw [if_neg hm, if_neg hm]; simp only [Option.bind_some, if_neg (show ¬ (false = true) by decide)]
      rw [pround_is _ n (by omega) (by omega) k (by omega)]; rfl
end Go.Proofs.YtpgpmldaggpciaaDoor.Conv03
