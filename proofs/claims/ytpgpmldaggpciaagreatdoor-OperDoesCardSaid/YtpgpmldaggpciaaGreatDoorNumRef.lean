/- The reference of layer 2 reckons as package num does. -/
import Derived.Test.YtpgpmldaggpciaaGreatDoorNum
import Derived.Test.YtpgpmldaggpciaaGreatDoorPAllx4
import Derived.Test.YtpgpmldaggpciaaGreatDoorPAllx5
import Derived.Test.YtpgpmldaggpciaaGreatDoorPAllx6
import Derived.Test.YtpgpmldaggpciaaGreatDoorPAllx7
set_option linter.unusedVariables false
set_option linter.unusedSimpArgs false
namespace Go.Proofs.YtpgpmldaggpciaaGreatDoor.Num
open Go.RowKit Go.Proofs.YtpgpmldaggpciaaGreatDoor.PAll Go.Proofs.YtpgpmldaggpciaaGreatDoorW.PrintWords Go.Proofs.YtpgpmldaggpciaaGreatDoorW.PrintLast Go.Proofs.YtpgpmldaggpciaaGreatDoorW.PrintMore Go.Proofs.YtpgpmldaggpciaaGreatDoor.Maths
theorem power_is (d : Nat) : ∀ (k : Nat) (i : Int) (p : Nat), i = d → d + p < 64 → d < k → selkieref02_power.l0 k i (2 ^ p) = some (2 ^ (d + p)) := by
  induction d with
  | zero =>
    intro k i p hi hp hk
    obtain ⟨k, rfl⟩ : ∃ m, k = m + 1 := ⟨k - 1, by omega⟩
    simp only [selkieref02_power.l0]; rw [if_neg (by omega)]; simp
  | succ d ih =>
    intro k i p hi hp hk
    obtain ⟨k, rfl⟩ : ∃ m, k = m + 1 := ⟨k - 1, by omega⟩
    simp only [selkieref02_power.l0]; rw [if_pos (by omega)]
    have h1 : wrap64 (i - 1) = i - 1 := wrap64_in (by omega)
    have h3 : (2 : Nat) ^ (p + 1) < 2 ^ 64 := Nat.pow_lt_pow_right (by decide) (by omega)
    have h2 : IntKind.u64.wrap (2 * 2 ^ p) = 2 ^ (p + 1) := by
      rw [u64_wrap]
      have e : (2 : Int) * 2 ^ p = ((2 ^ (p + 1) : Nat) : Int) := by rw [Nat.pow_succ]; push_cast; omega
      rw [e]; push_cast
      have h4 : ((2 ^ (p + 1) : Nat) : Int) < 18446744073709551616 := by omega
      push_cast at h4
      have h5 : (0 : Int) ≤ 2 ^ (p + 1) := by have := Int.natCast_nonneg (2 ^ (p + 1)); push_cast at this; exact this
      exact Int.emod_eq_of_lt h5 h4
    rw [h1, h2, ih k (i - 1) (p + 1) (by omega) (by omega) (by omega)]
    congr 2; omega
theorem pow_is (k : Nat) (i : Nat) (hi : i < 64) (hk : 64 < k) : selkieref02_power.f k (i : Int) = some ((2 ^ i : Nat) : Int) := by
  unfold selkieref02_power.f
  have := power_is i k i 0 rfl (by omega) (by omega)
  simpa using this
theorem bit_is (k : Nat) (A : BitVec 64) (i : Int) (hk : 64 < k) : selkieref02_bit.f k (A.toNat : Int) i = some (decide (0 ≤ i) && A.getLsbD i.toNat) := by
  unfold selkieref02_bit.f
  by_cases h0 : i ≥ 0
  · rw [if_pos h0]
    obtain ⟨j, rfl⟩ := Int.eq_ofNat_of_zero_le h0
    by_cases h1 : (j : Int) < 64
    · rw [if_pos h1, pow_is k j (by omega) hk]; simp only [Option.bind_some]
      have hp : 0 < 2 ^ j := Nat.two_pow_pos j
      rw [if_neg (by omega)]
      have e1 : Int.tdiv (A.toNat : Int) ((2 ^ j : Nat) : Int) = ((A.toNat / 2 ^ j : Nat) : Int) := by rw [Int.tdiv_eq_ediv_of_nonneg (by omega)]; simp
      have hlt : A.toNat / 2 ^ j < 2 ^ 64 := Nat.lt_of_le_of_lt (Nat.div_le_self ..) A.isLt
      have e4 : A.getLsbD j = decide (A.toNat / 2 ^ j % 2 = 1) := by unfold BitVec.getLsbD; rw [Nat.testBit_eq_decide_div_mod_eq]
      have e5 : decide (0 ≤ (j : Int)) = true := by simp
      rw [e1, e5, Int.toNat_natCast, e4]
      clear e1 e4 hp
      generalize A.toNat / 2 ^ j = q at hlt ⊢
      have e2 : IntKind.u64.wrap (q : Int) = q := by rw [u64_wrap]; omega
      have e3 : Int.tmod (q : Int) 2 = ((q % 2 : Nat) : Int) := by rw [Int.tmod_eq_emod_of_nonneg (by omega)]; simp
      rw [e2, e3, Bool.true_and]
      congr 1; rw [Bool.eq_iff_iff]; simp; omega
    · rw [if_neg h1]; simp; exact BitVec.getLsbD_of_ge _ _ (by omega)
  · rw [if_neg h0]; simp; omega
theorem mod_step (X : BitVec 64) (i : Nat) : X.toNat % 2 ^ (i + 1) = X.toNat % 2 ^ i + (if X.getLsbD i = true then 2 ^ i else 0) := by
  rw [Nat.mod_pow_succ]; unfold BitVec.getLsbD
  rw [Nat.testBit_eq_decide_div_mod_eq]
  rcases Nat.mod_two_eq_zero_or_one (X.toNat / 2 ^ i) with h | h <;> simp [h]
/-- The reference's loop over the bits: if at each place it finds X's bit, it answers X. -/
theorem bits_loop (op b : Int) (A X : BitVec 64) (hb : -9223372036854775808 ≤ b ∧ b ≤ 9223372036854775807)
    (hX : ∀ i : Nat, i < 64 → X.getLsbD i = (if op = 6 then A.getLsbD i && (B b).getLsbD i else if op = 7 then A.getLsbD i || (B b).getLsbD i else if op = 8 then A.getLsbD i != (B b).getLsbD i
      else if op = 9 then decide (b > -64) && decide (b < 64) && (decide (0 ≤ (i : Int) - b) && A.getLsbD ((i : Int) - b).toNat)
      else if op = 10 then decide (b > -64) && decide (b < 64) && (decide (0 ≤ (i : Int) + b) && A.getLsbD ((i : Int) + b).toNat) else false)) (d : Nat) :
    ∀ (k i : Nat), i + d = 64 → d + 65 < k → selkieref02_bits.l0 k op (A.toNat : Int) b ((X.toNat % 2 ^ i : Nat) : Int) (i : Int) = some X.toInt := by
  induction d with
  | zero =>
    intro k i hi hk
    obtain rfl : i = 64 := by omega
    obtain ⟨k, rfl⟩ : ∃ m, k = m + 1 := ⟨k - 1, by omega⟩
    simp only [selkieref02_bits.l0]; rw [if_neg (by omega), Nat.mod_eq_of_lt X.isLt, wrap64_B, B_toNat]
  | succ d ih =>
    intro k i hi hk
    obtain ⟨k, rfl⟩ : ∃ m, k = m + 1 := ⟨k - 1, by omega⟩
    have hx := hX i (by omega)
    have hn := ih k (i + 1) (by omega) (by omega)
    rw [mod_step] at hn
    have hw : wrap64 ((i : Int) + 1) = ((i + 1 : Nat) : Int) := by rw [wrap64_in (by omega)]; omega
    have hlt : X.toNat % 2 ^ i < 2 ^ i := Nat.mod_lt _ (Nat.two_pow_pos i)
    have hp63 : 2 ^ i ≤ 2 ^ 63 := Nat.pow_le_pow_right (by decide) (by omega)
    have hu : IntKind.u64.wrap (((X.toNat % 2 ^ i : Nat) : Int) + ((2 ^ i : Nat) : Int)) = ((X.toNat % 2 ^ i + 2 ^ i : Nat) : Int) := by rw [u64_wrap]; omega
    have yes : X.getLsbD i = true → selkieref02_bits.l0 k op (A.toNat : Int) b (IntKind.u64.wrap (((X.toNat % 2 ^ i : Nat) : Int) + ((2 ^ i : Nat) : Int))) (wrap64 ((i : Int) + 1)) = some X.toInt := by
      intro h; rw [hu, hw]; rw [h] at hn; simpa using hn
    have no : X.getLsbD i = false → selkieref02_bits.l0 k op (A.toNat : Int) b ((X.toNat % 2 ^ i : Nat) : Int) (wrap64 ((i : Int) + 1)) = some X.toInt := by
      intro h; rw [hw]; rw [h] at hn; simpa using hn
    clear hn ih
    simp only [selkieref02_bits.l0]
    rw [if_pos (by omega), u64_B b, bit_is k A _ (by omega), bit_is k (B b) _ (by omega)]
    simp only [Option.bind_some, pow_is k i (by omega) (by omega)]
    have e0 : decide (0 ≤ (i : Int)) = true := by simp
    rw [e0]; simp only [Bool.true_and, Int.toNat_natCast]
    by_cases o6 : op = 6
    · subst o6
      simp only [if_true] at hx ⊢
      rw [hx] at yes no
      cases h1 : A.getLsbD i <;> cases h2 : (B b).getLsbD i <;> simp only [h1, h2] at yes no ⊢ <;> simp at yes no ⊢ <;> assumption
    rw [if_neg o6] at hx ⊢
    by_cases o7 : op = 7
    · subst o7
      simp only [if_true] at hx ⊢
      rw [hx] at yes no
      cases h1 : A.getLsbD i <;> cases h2 : (B b).getLsbD i <;> simp only [h1, h2] at yes no ⊢ <;> simp at yes no ⊢ <;> assumption
    rw [if_neg o7] at hx ⊢
    by_cases o8 : op = 8
    · subst o8
      simp only [if_true] at hx ⊢
      rw [hx] at yes no
      cases h1 : A.getLsbD i <;> cases h2 : (B b).getLsbD i <;> simp only [h1, h2] at yes no ⊢ <;> simp at yes no ⊢ <;> assumption
    rw [if_neg o8] at hx ⊢
    by_cases o9 : op = 9
    · subst o9
      simp only [if_true] at hx ⊢
      by_cases c1 : b > -64
      · rw [if_pos c1]
        by_cases c2 : b < 64
        · rw [if_pos c2]
          rw [wrap64_in (show -9223372036854775808 ≤ (i : Int) - b ∧ (i : Int) - b ≤ 9223372036854775807 by omega), bit_is k A _ (by omega)]
          simp only [Option.bind_some]
          rw [hx] at yes no
          simp only [c1, c2, decide_true, Bool.true_and] at yes no
          cases h1 : (decide (0 ≤ (i : Int) - b) && A.getLsbD ((i : Int) - b).toNat) <;> simp only [h1] at yes no ⊢ <;> simp at yes no ⊢ <;> assumption
        · rw [if_neg c2]; exact no (by rw [hx]; simp [c2])
      · rw [if_neg c1]; exact no (by rw [hx]; simp [c1])
    rw [if_neg o9] at hx ⊢
    by_cases o10 : op = 10
    · subst o10
      simp only [if_true] at hx ⊢
      by_cases c1 : b > -64
      · rw [if_pos c1]
        by_cases c2 : b < 64
        · rw [if_pos c2]
          rw [wrap64_in (show -9223372036854775808 ≤ (i : Int) + b ∧ (i : Int) + b ≤ 9223372036854775807 by omega), bit_is k A _ (by omega)]
          simp only [Option.bind_some]
          rw [hx] at yes no
          simp only [c1, c2, decide_true, Bool.true_and] at yes no
          cases h1 : (decide (0 ≤ (i : Int) + b) && A.getLsbD ((i : Int) + b).toNat) <;> simp only [h1] at yes no ⊢ <;> simp at yes no ⊢ <;> assumption
        · rw [if_neg c2]; exact no (by rw [hx]; simp [c2])
      · rw [if_neg c1]; exact no (by rw [hx]; simp [c1])
    rw [if_neg o10] at hx ⊢
    exact no hx
theorem sh_bit (A : BitVec 64) (b : Int) (i : Nat) (hi : i < 64) : (N.sh A b).getLsbD i = (decide (b > -64) && decide (b < 64) && (decide (0 ≤ (i : Int) - b) && A.getLsbD ((i : Int) - b).toNat)) := by
  by_cases c : b > -64 ∧ b < 64
  · simp only [c.1, c.2, decide_true, Bool.true_and]
    unfold N.sh
    by_cases h : b < 0
    · rw [if_pos h, BitVec.getLsbD_ushiftRight]
      have e : (-b).toNat + i = ((i : Int) - b).toNat := by omega
      rw [e]; simp; omega
    · rw [if_neg h, BitVec.getLsbD_shiftLeft]
      by_cases h2 : i < b.toNat
      · simp [h2]; omega
      · have e : i - b.toNat = ((i : Int) - b).toNat := by omega
        rw [e]; simp [h2, hi]; omega
  · rw [N.sh_far A b (by omega)]
    by_cases c1 : b > -64 <;> by_cases c2 : b < 64 <;> simp [c1, c2]; omega
theorem bits_is (op a b : Int) (hb : -9223372036854775808 ≤ b ∧ b ≤ 9223372036854775807) (ho : 6 ≤ op ∧ op ≤ 10) : selkieref02_bits.f 198 op (IntKind.u64.wrap a) b = some (doN op a b) := by
  unfold selkieref02_bits.f
  rw [u64_B]
  have go : ∀ X : BitVec 64, doN op a b = X.toInt → (∀ i : Nat, i < 64 → X.getLsbD i = (if op = 6 then (B a).getLsbD i && (B b).getLsbD i else if op = 7 then (B a).getLsbD i || (B b).getLsbD i else if op = 8 then (B a).getLsbD i != (B b).getLsbD i
      else if op = 9 then decide (b > -64) && decide (b < 64) && (decide (0 ≤ (i : Int) - b) && (B a).getLsbD ((i : Int) - b).toNat)
      else if op = 10 then decide (b > -64) && decide (b < 64) && (decide (0 ≤ (i : Int) + b) && (B a).getLsbD ((i : Int) + b).toNat) else false)) → selkieref02_bits.l0 198 op ((B a).toNat : Int) b 0 0 = some (doN op a b) := by
    intro X h hX
    have := bits_loop op b (B a) X hb hX 64 198 0 (by omega) (by omega)
    rw [h]; simpa [Nat.mod_one] using this
  obtain rfl | rfl | rfl | rfl | rfl : op = 6 ∨ op = 7 ∨ op = 8 ∨ op = 9 ∨ op = 10 := by omega
  · exact go (B a &&& B b) rfl (by intro i hi; simp)
  · exact go (B a ||| B b) rfl (by intro i hi; simp)
  · exact go (B a ^^^ B b) rfl (by intro i hi; simp [bne])
  · exact go (N.sh (B a) b) rfl (by intro i hi; simpa using sh_bit (B a) b i hi)
  · refine go (N.sh (B a) (-b)) rfl (by
      intro i hi
      rw [sh_bit (B a) (-b) i hi]
      have e : (i : Int) - -b = (i : Int) + b := by omega
      rw [e]
      have e1 : decide (-b > -64) = decide (b < 64) := by rw [decide_eq_decide]; omega
      have e2 : decide (-b < 64) = decide (b > -64) := by rw [decide_eq_decide]; omega
      rw [e1, e2]; simp [Bool.and_comm (decide (b < 64))])
theorem w_uu (x : Int) : wrap64 (IntKind.u64.wrap x) = wrap64 x := by rw [u64_wrap]; unfold wrap64; omega
theorem ref_do (op a b : Int) (ha : -9223372036854775808 ≤ a ∧ a ≤ 9223372036854775807) (hb : -9223372036854775808 ≤ b ∧ b ≤ 9223372036854775807) : selkieref02_Do.f 200 op a b = some (doN op a b, doE op a b) := by
  unfold selkieref02_Do.f
  by_cases h1 : op = 1
  · subst h1; rw [if_pos rfl, w_uu]; congr 2; show _ = wrap64 (a + b); rw [u64_wrap, u64_wrap]; unfold wrap64; omega
  rw [if_neg h1]
  by_cases h2 : op = 2
  · subst h2; rw [if_pos rfl, w_uu]; congr 2; show _ = wrap64 (a - b); rw [u64_wrap, u64_wrap]; unfold wrap64; omega
  rw [if_neg h2]
  by_cases h3 : op = 3
  · subst h3; rw [if_pos rfl, w_uu]; congr 2; show _ = wrap64 (a * b)
    apply B_inj (wrap64_range _) (wrap64_range _); rw [B_wrap, B_wrap, B_mul, B_u64, B_u64, B_mul]
  rw [if_neg h3]
  have div : ∀ (o : Int), (o = 4 ∨ o = 5) → op = o → selkieref02_Do.j0 200 op a b op true = some (doN op a b, doE op a b) := by
    intro o ho hop
    simp only [selkieref02_Do.j0, if_true]
    by_cases hz : b = 0
    · rw [if_pos hz]; subst hz; rcases ho with rfl | rfl <;> subst hop <;> simp [doN, doE, num_divide.f]
    rw [if_neg hz]
    have eE : doE op a b = 0 := by rcases ho with rfl | rfl <;> subst hop <;> simp [doE, hz]
    by_cases hm : b = -1
    · rw [if_pos hm]; subst hm
      have t1 : Int.tmod a (-1) = 0 := by simp
      have t2 : Int.tdiv a (-1) = -a := by simp [Int.tdiv_neg]
      rcases ho with rfl | rfl
      · subst hop; simp [doN, doE, num_divide.f, t1, t2]; rw [w_uu, u64_wrap]; unfold wrap64; omega
      · subst hop; simp [doN, doE, num_divide.f, t1, t2]
    rw [if_neg hm, eE]
    have hr : -9223372036854775808 ≤ Int.tmod a b ∧ Int.tmod a b ≤ 9223372036854775807 := by
      have hm : (Int.tmod a b).natAbs < b.natAbs := by rw [Int.natAbs_tmod]; exact Nat.mod_lt _ (by omega)
      omega
    by_cases h0 : Int.tmod a b = 0
    · rw [if_pos h0]
      rcases ho with rfl | rfl <;> subst hop <;> simp [doN, num_divide.f, hz, h0, selkieref02_Do.j1]
    rw [if_neg h0]
    have x := xor_neg (Int.tmod a b) b hr hb
    by_cases hx : Go.bits .xor .i64 (Int.tmod a b) b < 0
    · have e : (decide (Int.tmod a b < 0) != decide (b < 0)) = true := by have := x.1 hx; rw [bne_iff_ne]; simp; omega
      rw [e]
      rcases ho with rfl | rfl <;> subst hop <;> simp [doN, num_divide.f, hz, h0, hx, selkieref02_Do.j1]
    · have e : (decide (Int.tmod a b < 0) != decide (b < 0)) = false := by
        have x' : ¬ _ := fun h => hx (x.2 h)
        by_cases p1 : Int.tmod a b < 0 <;> by_cases p2 : b < 0 <;> simp [p1, p2] <;> omega
      rw [e]
      rcases ho with rfl | rfl <;> subst hop <;> simp [doN, num_divide.f, hz, h0, hx, selkieref02_Do.j1]
  by_cases h4 : op = 4
  · rw [if_pos h4]; have := div 4 (Or.inl rfl) h4; rw [show (op == 4) = true by simp [h4]]; exact this
  rw [if_neg h4]
  by_cases h5 : op = 5
  · have := div 5 (Or.inr rfl) h5; rw [show (op == 5) = true by simp [h5]]; exact this
  rw [show (op == 5) = false by simp [h5]]
  simp only [selkieref02_Do.j0, if_neg (show ¬ (false = true) by decide)]
  have eb : ∀ o : Int, op = o → 6 ≤ o ∧ o ≤ 10 → ((selkieref02_bits.f 199 op (IntKind.u64.wrap a) b).bind fun t => some (t, (0 : Int))) = some (doN op a b, doE op a b) := by
    intro o ho hr
    subst ho
    rw [at_rounds (g := fun k => selkieref02_bits.f k op (IntKind.u64.wrap a) b) (fun k => selkieref02_bits.mono _ _ _ k) (show 198 ≤ 199 by omega) (bits_is op a b hb hr)]
    simp only [Option.bind_some]
    have : doE op a b = 0 := by unfold doE; rw [if_neg (by omega), if_pos (by omega)]
    rw [this]
  by_cases h6 : op = 6
  · rw [if_pos h6]; exact eb 6 h6 (by omega)
  rw [if_neg h6]
  by_cases h7 : op = 7
  · rw [if_pos h7]; exact eb 7 h7 (by omega)
  rw [if_neg h7]
  by_cases h8 : op = 8
  · rw [if_pos h8]; exact eb 8 h8 (by omega)
  rw [if_neg h8]
  by_cases h9 : op = 9
  · rw [if_pos h9]; exact eb 9 h9 (by omega)
  rw [if_neg h9]
  by_cases h10 : op = 10
  · rw [if_pos h10]; exact eb 10 h10 (by omega)
  rw [if_neg h10]
  have e1 : doN op a b = 0 := by simp [doN, h1, h2, h3, h4, h5, h6, h7, h8, h9, h10]
  have e2 : doE op a b = 1 := by unfold doE; rw [if_neg (by omega), if_neg (by omega)]
  rw [e1, e2]
theorem ref_one (op a : Int) : selkieref02_One.f op a = num_One.f op a := by
  unfold selkieref02_One.f num_One.f
  by_cases h : op = 20
  · rw [if_pos h, if_pos h, w_uu]; congr 2; rw [u64_wrap]; unfold wrap64; omega
  rw [if_neg h, if_neg h]
  by_cases h1 : op = 21
  · rw [if_pos h1, if_pos h1, w_uu]; congr 2
    have e : Go.bits .xor .i64 (-1) a = (~~~ B a).toInt := by
      rw [bits_i64]; show (B (-1) ^^^ B a).toInt = _
      rw [show B (-1) = BitVec.allOnes 64 from by decide]; rw [BitVec.allOnes_xor]
    rw [e, wrap64_B, B_sub, B_u64]
    rw [show B 18446744073709551615 = BitVec.allOnes 64 from by decide]
    rw [BitVec.allOnes_sub_eq_not]
  rw [if_neg h1, if_neg h1]
end Go.Proofs.YtpgpmldaggpciaaGreatDoor.Num
