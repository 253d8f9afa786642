/- The calls of the reference of layer 1: they answer what package value answers. -/
import Derived.Test.YtbmenmcjlidadaaDoorVal
import Derived.Test.YtbmenmcjlidadaaDoorPAllx2
import Derived.Test.YtbmenmcjlidadaaDoorPAllx4
import Derived.Test.YtbmenmcjlidadaaDoorPAllx5
import Derived.Test.YtbmenmcjlidadaaDoorPAllx7
import Derived.Laws.BytesArg
import Derived.Lib.LazyBuf
import Derived.Lib.ItoaNum
set_option linter.unusedVariables false
set_option linter.unusedSimpArgs false
namespace Go.Proofs.YtbmenmcjlidadaaDoor.Ref01
open Go.RowKit Go.Proofs.YtbmenmcjlidadaaDoor.PAll Go.Proofs.YtbmenmcjlidadaaDoorW.PrintWords Go.Proofs.YtbmenmcjlidadaaDoorW.PrintLast Go.Proofs.YtbmenmcjlidadaaDoorW.PrintMore Go.Proofs.YtbmenmcjlidadaaDoor.Maths Go.Proofs.YtbmenmcjlidadaaDoor.TabW Go.Proofs.YtbmenmcjlidadaaDoor.Val

theorem strange_is' (k n : Int) (s : ByteArray) : selkieref01_strange.f k n s = some (decide (k < 0 ∨ k > 7)) := by
  unfold selkieref01_strange.f; by_cases h : k < 0 <;> simp [h]
theorem strange_calls (k n : Int) (s : ByteArray) (w : World) :
    Calls Tryd.prog 28 #[.agg #[.int .i64 k, .int .i64 n, .string s]] w fun e w' => e = .returned (.bool (decide (k < 0 ∨ k > 7))) ∧ Below w.heap.size w w' :=
  selkieref01_strange.calls k n s _ w (strange_is' k n s)
theorem own_is' (k n : Int) (s : ByteArray) : selkieref01_Own.f 3 k n s = some (ownK k, ownN k n, ownS k s) := by
  unfold selkieref01_Own.f
  rw [strange_is']; simp only [Option.bind_some]
  by_cases h : k < 0 ∨ k > 7
  · rw [if_pos (by simp [h])]
    simp only [selkieref01_Own.j0, if_true]
    unfold ownK ownN ownS
    rw [if_neg (by omega), if_neg (by omega), if_neg (by omega), if_neg (by omega)]
  · rw [if_neg (by simp; omega)]
    by_cases h0 : k = 0
    · subst h0; simp [selkieref01_Own.j0, ownK, ownN, ownS]
    have hb : (k == 0) = false := beq_eq_false_iff_ne.2 h0
    rw [hb]; simp only [selkieref01_Own.j0, selkieref01_Own.j1, if_neg (show ¬ (false = true) by decide)]
    unfold ownK ownN ownS
    rw [if_pos (show 0 ≤ k ∧ k ≤ 7 by omega)]
    by_cases h1 : k = 1
    · subst h1
      by_cases hn : n = 0
      · subst hn; simp
      · simp [hn]
    rw [if_neg h1, if_neg h1]
    by_cases h3 : k = 3
    · subst h3; simp
    rw [if_neg h3, if_neg h3, if_pos (by omega)]
theorem own_calls' (k n : Int) (s : ByteArray) (w : World) :
    Calls Tryd.prog 19 #[.agg #[.int .i64 k, .int .i64 n, .string s]] w fun e w' => e = .returned (.agg #[.int .i64 (ownK k), .int .i64 (ownN k n), .string (ownS k s)]) ∧ Below w.heap.size w w' :=
  selkieref01_Own.calls 3 k n s _ _ _ w (own_is' k n s)
theorem key_is' (k n : Int) (s : ByteArray) : selkieref01_Key.f 3 k n s = some (keyK k, ownN k n, ownS k s, keyE k) := by
  have h0 := key_is k n s
  unfold selkieref01_Key.f
  unfold value_Key.f at h0
  rw [strange_is, own_is] at h0
  rw [strange_is', own_is']
  rw [← h0]
  by_cases h : k = 0
  · subst h; simp
  · rw [if_neg h]; simp [h]
theorem key_calls' (k n : Int) (s : ByteArray) (w : World) :
    Calls Tryd.prog 11 #[.agg #[.int .i64 k, .int .i64 n, .string s]] w fun e w' => e = .returned (.tuple #[.agg #[.int .i64 (keyK k), .int .i64 (ownN k n), .string (ownS k s)], .int .i64 (keyE k)]) ∧ Below w.heap.size w w' :=
  selkieref01_Key.calls 3 k n s _ _ _ _ w (key_is' k n s)
theorem truth_is' (k n : Int) (s : ByteArray) : selkieref01_Truth.f k n s = some (truthB k n) := by
  unfold selkieref01_Truth.f truthB
  rw [strange_is']; simp only [Option.bind_some]
  by_cases h : k < 0 ∨ k > 7
  · rw [if_pos (by simp [h])]; congr 1; symm; rw [decide_eq_false_iff_not]; omega
  · rw [if_neg (by simp; omega)]
    by_cases h0 : k = 0
    · subst h0; simp
    rw [if_neg h0]
    by_cases h1 : k = 1
    · subst h1; by_cases hn : n = 0 <;> simp [hn]
    · rw [if_neg h1]; congr 1; rw [Bool.eq_iff_iff]; simp; omega
theorem truth_calls' (k n : Int) (s : ByteArray) (w : World) :
    Calls Tryd.prog 13 #[.agg #[.int .i64 k, .int .i64 n, .string s]] w fun e w' => e = .returned (.bool (truthB k n)) ∧ Below w.heap.size w w' :=
  selkieref01_Truth.calls k n s _ w (truth_is' k n s)

/-- the digits of a number -/
theorem one_digit (m : Nat) (h : m < 10) : strOfNums [(wrap64 (48 + (m : Int))) % 256] = ⟨#[UInt8.ofNat (48 + m)]⟩ := by
  rw [wrap64_in (by omega)]
  unfold strOfNums
  have : ((48 + (m : Int)) % 256).toNat = 48 + m := by omega
  simp [this]
theorem push_digit (l : List UInt8) (m : Nat) (h : m < 10) : (⟨l.toArray⟩ : ByteArray) ++ strOfNums [(wrap64 (48 + (m : Int))) % 256] = ⟨(l ++ [UInt8.ofNat (48 + m)]).toArray⟩ := by
  rw [one_digit m h]
  apply WideShapes.bytes_inj
  rw [ByteArray.data_append]; simp
theorem itoa_pos (n : Nat) : Lib.itoa (n : Int) = Lib.decDigits n := by unfold Lib.itoa; rw [if_neg (by omega)]; simp
theorem itoa_neg (n : Nat) (h : 0 < n) : Lib.itoa (-(n : Int)) = 45 :: Lib.decDigits n := by unfold Lib.itoa; rw [if_pos (by omega)]; simp
theorem dec_big (n : Nat) (h : ¬ n < 10) : Lib.decDigits n = Lib.decDigits (n / 10) ++ [UInt8.ofNat (48 + n % 10)] := by rw [Lib.decDigits, dif_neg h]
theorem nDigits_le (u : Nat) (h : u < 10 ^ 20) : Lib.nDigits u ≤ 20 := by
  apply Classical.byContradiction; intro hc
  have h1 := Lib.decDigits_length u
  have : ∀ (k u : Nat), u < 10 ^ (k + 1) → Lib.nDigits u ≤ k + 1 := by
    intro k
    induction k with
    | zero => intro u hu; rw [Lib.nDigits_small (by omega)]; omega
    | succ k ih =>
      intro u hu
      by_cases hs : u < 10
      · rw [Lib.nDigits_small hs]; omega
      · rw [Lib.nDigits_big hs]
        have := ih (u / 10) (by rw [Nat.pow_succ] at hu; omega)
        omega
  have := this 19 u h
  omega
theorem dec_len (u : Nat) (h : u ≤ 9223372036854775808) : (Lib.decDigits u).length ≤ 20 := by
  rw [Lib.decDigits_length]; exact nDigits_le u (by omega)
theorem size_mk (l : List UInt8) : (⟨l.toArray⟩ : ByteArray).size = l.length := by simp [ByteArray.size]
theorem digits_pos (m : Nat) : ∀ n : Nat, n ≤ m → n ≤ 9223372036854775807 → ∀ k, 3 * n + 3 ≤ k → selkieref01_Digits.f k (n : Int) = some ⟨(Lib.decDigits n).toArray⟩ := by
  induction m with
  | zero =>
    intro n hn hm k hk
    obtain rfl : n = 0 := by omega
    obtain ⟨k, rfl⟩ : ∃ j, k = j + 2 := ⟨k - 2, by omega⟩
    simp [selkieref01_Digits.f, selkieref01_Digits.j0]
    rw [Lib.decDigits_one (by omega)]; decide +kernel
  | succ m ih =>
    intro n hn hm k hk
    obtain ⟨k, rfl⟩ : ∃ j, k = j + 3 := ⟨k - 3, by omega⟩
    rw [selkieref01_Digits.f, if_pos (by omega)]
    by_cases h10 : n < 10
    · rw [decide_eq_true (by omega : (n : Int) < 10), selkieref01_Digits.j0, if_pos rfl, one_digit n h10, Lib.decDigits_one h10]
    · rw [decide_eq_false (by omega : ¬ (n : Int) < 10), selkieref01_Digits.j0, if_neg (by decide), if_neg (by omega), selkieref01_Digits.j1, if_neg (by decide)]
      have e1 : Int.tmod (n : Int) 10 = ((n % 10 : Nat) : Int) := by rw [Int.tmod_eq_emod_of_nonneg (by omega)]; simp
      have e2 : Int.tdiv (n : Int) 10 = ((n / 10 : Nat) : Int) := by rw [Int.tdiv_eq_ediv_of_nonneg (by omega)]; simp
      rw [e1, e2, if_neg (by omega), wrap64_in (by omega), ih (n / 10) (by omega) (by omega) k (by omega)]
      simp only [Option.bind_some]
      have hl := dec_len (n / 10) (by omega)
      have hz : (strOfNums [(wrap64 (48 + ((n % 10 : Nat) : Int))) % 256]).size = 1 := by rw [one_digit _ (by omega)]; rfl
      rw [hz, size_mk, if_pos (by omega), push_digit _ _ (by omega), ← dec_big n h10]
theorem digits_neg (m : Nat) : ∀ n : Nat, n ≤ m → 0 < n → n ≤ 9223372036854775808 → ∀ k, 3 * n + 3 ≤ k → selkieref01_Digits.f k (-(n : Int)) = some ⟨(45 :: Lib.decDigits n).toArray⟩ := by
  induction m with
  | zero => intro n hn hp; omega
  | succ m ih =>
    intro n hn hp hm k hk
    obtain ⟨k, rfl⟩ : ∃ j, k = j + 3 := ⟨k - 3, by omega⟩
    rw [selkieref01_Digits.f, if_neg (by omega), selkieref01_Digits.j0, if_neg (by decide), if_pos (by omega)]
    by_cases h10 : n < 10
    · rw [decide_eq_true (by omega : -(n : Int) > -10), selkieref01_Digits.j1, if_pos rfl, Lib.decDigits_one h10]
      rw [wrap64_in (by omega)]
      have e : (48 - -(n : Int)) % 256 = 48 + n := by omega
      rw [e]; unfold strOfNums
      have e2 : (48 + (n : Int)).toNat = 48 + n := by omega
      simp [e2]
    · rw [decide_eq_false (by omega : ¬ -(n : Int) > -10), selkieref01_Digits.j1, if_neg (by decide)]
      have e1 : Int.tmod (-(n : Int)) 10 = -((n % 10 : Nat) : Int) := by rw [Int.neg_tmod, Int.tmod_eq_emod_of_nonneg (by omega)]; simp
      have e2 : Int.tdiv (-(n : Int)) 10 = -((n / 10 : Nat) : Int) := by rw [Int.neg_tdiv, Int.tdiv_eq_ediv_of_nonneg (by omega)]; simp
      have hl := dec_len (n / 10) (by omega)
      have hw : wrap64 (- -((n % 10 : Nat) : Int)) = ((n % 10 : Nat) : Int) := by rw [wrap64_in (by omega)]; omega
      have hw2 : wrap64 (-((n / 10 : Nat) : Int)) = -((n / 10 : Nat) : Int) := wrap64_in (by omega)
      have hz : (strOfNums [(wrap64 (48 + ((n % 10 : Nat) : Int))) % 256]).size = 1 := by rw [one_digit _ (by omega)]; rfl
      have fin : (⟨(45 :: Lib.decDigits (n / 10)).toArray⟩ : ByteArray) ++ strOfNums [(wrap64 (48 + ((n % 10 : Nat) : Int))) % 256] = ⟨(45 :: Lib.decDigits n).toArray⟩ := by
        rw [push_digit _ _ (by omega), dec_big n h10]; rfl
      rw [e1, e2, hw2, ih (n / 10) (by omega) (by omega) (by omega) k (by omega)]
      simp only [Option.bind_some]
      by_cases hz0 : n % 10 = 0
      · rw [if_neg (by omega)]
        have e3 : -((n % 10 : Nat) : Int) = ((n % 10 : Nat) : Int) := by omega
        rw [e3, hz, size_mk, if_pos (by simp; omega), fin]
      · rw [if_pos (by omega), hw, hz, size_mk, if_pos (by simp; omega), fin]
theorem digits_is (n : Int) (hn : -9223372036854775808 ≤ n ∧ n ≤ 9223372036854775807) : ∃ K, ∀ k, K ≤ k → selkieref01_Digits.f k n = some (itoaS n) := by
  by_cases h : n < 0
  · obtain ⟨m, rfl⟩ : ∃ m : Nat, n = -(m : Int) := ⟨n.natAbs, by omega⟩
    refine ⟨3 * m + 3, fun k hk => ?_⟩
    rw [digits_neg m m (Nat.le_refl _) (by omega) (by omega) _ hk]
    unfold itoaS; rw [itoa_neg m (by omega)]
  · obtain ⟨m, rfl⟩ := Int.eq_ofNat_of_zero_le (show 0 ≤ n by omega)
    refine ⟨3 * m + 3, fun k hk => ?_⟩
    rw [digits_pos m m (Nat.le_refl _) (by omega) _ hk]
    unfold itoaS; rw [itoa_pos m]
theorem rtype_is (k n : Int) (s : ByteArray) : selkieref01_Type.f k n s = some (typeS k) := rfl
theorem rprint_is (k n : Int) (s : ByteArray) (hn : -9223372036854775808 ≤ n ∧ n ≤ 9223372036854775807) : ∃ K, ∀ j, K ≤ j → selkieref01_Print.f j k n s = some (printS k n s) := by
  obtain ⟨K, hK⟩ := digits_is n hn
  refine ⟨K, fun j hj => ?_⟩
  unfold selkieref01_Print.f printS
  by_cases h1 : k = 1
  · subst h1; by_cases hz : n = 0 <;> simp [hz, boolS]
  rw [if_neg h1, if_neg h1]
  by_cases h2 : k = 2
  · subst h2; rw [if_pos rfl, if_pos rfl, hK j hj]; rfl
  rw [if_neg h2, if_neg h2]
  by_cases h3 : k = 3
  · subst h3; rfl
  rw [if_neg h3, if_neg h3, rtype_is]; rfl
/-- less, byte by byte -/
theorem less_drop (a b : ByteArray) (i : Nat) (ha : i < a.size) (hb : i < b.size) : Op.bytesLess (a.data.toList.drop i) (b.data.toList.drop i) = (a[i] < b[i] || (a[i] == b[i] && Op.bytesLess (a.data.toList.drop (i + 1)) (b.data.toList.drop (i + 1)))) := by
  have ha' : i < a.data.toList.length := by rw [Array.length_toList]; exact ha
  have hb' : i < b.data.toList.length := by rw [Array.length_toList]; exact hb
  rw [List.drop_eq_getElem_cons ha', List.drop_eq_getElem_cons hb']
  rfl
theorem before_loop (a b : ByteArray) (d : Nat) (hm : a.size ≤ 9223372036854775806) : ∀ (k i : Nat), i ≤ a.size → i ≤ b.size → a.size - i ≤ d → 2 * d + 2 ≤ k →
    selkieref01_Before.l0 k a b (i : Int) = some (Op.bytesLess (a.data.toList.drop i) (b.data.toList.drop i)) := by
  have ends : ∀ (k i : Nat), 2 ≤ k → (¬ (i < a.size) ∧ i = a.size ∧ i ≤ b.size ∨ i < a.size ∧ i = b.size) → selkieref01_Before.l0 k a b (i : Int) = some (Op.bytesLess (a.data.toList.drop i) (b.data.toList.drop i)) := by
    intro k i hk h
    obtain ⟨k, rfl⟩ : ∃ j, k = j + 2 := ⟨k - 2, by omega⟩
    have hda : (a.data.toList.drop i).length = a.size - i := by rw [List.length_drop, Array.length_toList]; rfl
    have hdb : (b.data.toList.drop i).length = b.size - i := by rw [List.length_drop, Array.length_toList]; rfl
    simp only [selkieref01_Before.l0]
    rcases h with ⟨h1, h2, h3⟩ | ⟨h1, h2⟩
    · rw [if_neg (by omega), selkieref01_Before.j1, if_neg (by decide)]
      have e : a.data.toList.drop i = [] := List.eq_nil_of_length_eq_zero (by omega)
      rw [e]; congr 1
      cases hb : b.data.toList.drop i with
      | nil => rw [hb] at hdb; simp [Op.bytesLess] at hdb ⊢; omega
      | cons x y => rw [hb] at hdb; simp [Op.bytesLess] at hdb ⊢; omega
    · rw [if_pos (by omega), decide_eq_false (by omega), selkieref01_Before.j1, if_neg (by decide)]
      have e : b.data.toList.drop i = [] := List.eq_nil_of_length_eq_zero (by omega)
      rw [e]; congr 1
      cases hb : a.data.toList.drop i with
      | nil => rw [hb] at hda; simp [Op.bytesLess] at hda ⊢; omega
      | cons x y => simp [Op.bytesLess]; omega
  induction d with
  | zero => intro k i h1 h2 h3 h4; exact ends k i (by omega) (by omega)
  | succ d ih =>
    intro k i h1 h2 h3 h4
    by_cases hi : i < a.size ∧ i < b.size
    · obtain ⟨k, rfl⟩ : ∃ j, k = j + 2 := ⟨k - 2, by omega⟩
      simp only [selkieref01_Before.l0]
      rw [if_pos (by omega), decide_eq_true (by omega), selkieref01_Before.j1, if_pos rfl, if_pos (by omega), if_pos (by omega), if_pos (by omega)]
      have ea : bt a (i : Int) = (a[i].toNat : Int) := by unfold bt; rw [dif_pos (by rw [Int.toNat_natCast]; exact hi.1)]; rfl
      have eb : bt b (i : Int) = (b[i].toNat : Int) := by unfold bt; rw [dif_pos (by rw [Int.toNat_natCast]; exact hi.2)]; rfl
      rw [ea, eb, less_drop a b i hi.1 hi.2]
      by_cases he : a[i] = b[i]
      · rw [if_pos (by rw [he]), wrap64_in (by omega)]
        have := ih k (i + 1) (by omega) (by omega) (by omega) (by omega)
        rw [show ((i : Int) + 1) = ((i + 1 : Nat) : Int) by omega, this]; simp [he]
      · have hn : (a[i].toNat : Int) ≠ (b[i].toNat : Int) := by
          intro h; apply he; exact UInt8.toNat_inj.1 (by omega)
        rw [if_neg hn]; congr 1
        have e1 : (a[i] == b[i]) = false := beq_eq_false_iff_ne.2 he
        rw [e1]; simp [UInt8.lt_iff_toNat_lt]
    · exact ends k i (by omega) (by omega)
theorem less_is' (k1 n1 : Int) (s1 : ByteArray) (k2 n2 : Int) (s2 : ByteArray) (hm : s1.size ≤ 9223372036854775806) : selkieref01_Less.f (2 * s1.size + 3) k1 n1 s1 k2 n2 s2 = some (lessB k1 n1 s1 k2 n2 s2) := by
  unfold selkieref01_Less.f lessB
  have hl : selkieref01_Before.f (2 * s1.size + 2) s1 s2 = some (Op.bytesLess s1.toList s2.toList) := by
    unfold selkieref01_Before.f
    have := before_loop s1 s2 s1.size hm (2 * s1.size + 2) 0 (by omega) (by omega) (by omega) (by omega)
    rw [ByteArray.toList_eq, ByteArray.toList_eq]
    simpa using this
  by_cases h1 : k1 = 2
  · subst h1
    by_cases h2 : k2 = 2
    · subst h2; simp [selkieref01_Less.j0]
    · have hb : (k2 == 2) = false := beq_eq_false_iff_ne.2 h2
      rw [if_pos rfl, hb, if_neg (by omega), selkieref01_Less.j0, if_neg (by decide), if_neg (by decide)]
  · rw [if_neg h1, selkieref01_Less.j0, if_neg (by decide)]
    by_cases h3 : k1 = 3
    · subst h3
      by_cases h4 : k2 = 3
      · subst h4; simp [hl]
      · rw [if_pos rfl, if_neg h4, if_neg (by omega)]
    · rw [if_neg h3]; by_cases h5 : k1 = k2
      · rw [if_pos h5, if_neg h1, if_neg h3]
      · rw [if_neg h5]
theorem less_calls' (k1 n1 : Int) (s1 : ByteArray) (k2 n2 : Int) (s2 : ByteArray) (w : World) (hm : s1.size ≤ 9223372036854775806) :
    Calls Tryd.prog 21 #[.agg #[.int .i64 k1, .int .i64 n1, .string s1], .agg #[.int .i64 k2, .int .i64 n2, .string s2]] w fun e w' =>
      e = .returned (.tuple #[.bool (lessB k1 n1 s1 k2 n2 s2).1, .bool (lessB k1 n1 s1 k2 n2 s2).2]) ∧ Below w.heap.size w w' :=
  selkieref01_Less.calls _ k1 n1 s1 k2 n2 s2 _ _ w (less_is' _ _ _ _ _ _ hm)
theorem raw_is' (k1 n1 : Int) (s1 : ByteArray) (k2 n2 : Int) (s2 : ByteArray) : selkieref01_Raw.f 1 k1 n1 s1 k2 n2 s2 = some (rawB k1 n1 s1 k2 n2 s2) := by
  unfold selkieref01_Raw.f rawB
  rw [strange_is', strange_is']; simp only [Option.bind_some]
  by_cases h : k1 < 0 ∨ k1 > 7
  · rw [if_pos (by simp [h]), selkieref01_Raw.j0, if_pos rfl]; congr 1; symm; rw [decide_eq_false_iff_not]; omega
  rw [if_neg (by simp; omega)]
  by_cases h2 : k2 < 0 ∨ k2 > 7
  · rw [if_pos (by simp [h2]), selkieref01_Raw.j0, if_pos rfl]; congr 1; symm; rw [decide_eq_false_iff_not]; omega
  rw [if_neg (by simp; omega)]
  by_cases he : k1 = k2
  · subst he
    have hb : (k1 != k1) = false := by simp
    rw [hb, selkieref01_Raw.j0, if_neg (by decide)]
    have hk : 0 ≤ k1 ∧ k1 ≤ 7 := by omega
    by_cases h0 : k1 = 0
    · subst h0; simp [ownN, ownS]
    rw [if_neg h0]
    by_cases h1 : k1 = 1
    · subst h1
      have e1 : (n1 == 0) = decide (n1 = 0) := rfl
      have e2 : (n2 == 0) = decide (n2 = 0) := rfl
      rw [e1, e2]
      by_cases a : n1 = 0 <;> by_cases b : n2 = 0 <;> simp [ownN, ownS, a, b]
    rw [if_neg h1]
    by_cases h3 : k1 = 3
    · subst h3; simp only [if_true]; congr 1; rw [Bool.eq_iff_iff]; simp [ownN, ownS, toList_inj]
    rw [if_neg h3]; congr 1; rw [Bool.eq_iff_iff]
    have e1 : ∀ n, ownN k1 n = n := by intro n; unfold ownN; rw [if_neg h1, if_pos (by omega)]
    rw [e1, e1]
    simp [ownS, h3, hk]
  · have hb : (k1 != k2) = true := by simp [he]
    rw [hb, selkieref01_Raw.j0, if_pos rfl]; congr 1; symm; rw [decide_eq_false_iff_not]; rintro ⟨_, _, h3, _⟩; exact he h3
theorem raw_calls' (k1 n1 : Int) (s1 : ByteArray) (k2 n2 : Int) (s2 : ByteArray) (w : World) :
    Calls Tryd.prog 23 #[.agg #[.int .i64 k1, .int .i64 n1, .string s1], .agg #[.int .i64 k2, .int .i64 n2, .string s2]] w fun e w' =>
      e = .returned (.bool (rawB k1 n1 s1 k2 n2 s2)) ∧ Below w.heap.size w w' :=
  selkieref01_Raw.calls 1 k1 n1 s1 k2 n2 s2 _ w (raw_is' ..)
end Go.Proofs.YtbmenmcjlidadaaDoor.Ref01
