/- The law NumDivides: the quotient times the divisor and the rest make the number again, going round; the rest is zero or has the divisor's sign and is nearer to zero. No condition. -/
import Derived.Test.YtgjiknglgchgkaaPNumDividesx2
import Derived.Test.YtgjiknglgchgkaaMaths
namespace Go.Proofs.Ytgjiknglgchgkaa.Pure
open Go.RowKit Go.Proofs.Ytgjiknglgchgkaa.PNumDivides Go.Proofs.YtgjiknglgchgkaaW.PrintWords Go.Proofs.YtgjiknglgchgkaaW.PrintLast Go.Proofs.Ytgjiknglgchgkaa.Maths

theorem NumDivides.alive : selkielaw02_alive.f 3 = some true := by decide +kernel
theorem NumDivides.div0 (a b : Int) (hb : b ≠ 0) (ha : -9223372036854775808 ≤ a ∧ a ≤ 9223372036854775807) (hb' : -9223372036854775808 ≤ b ∧ b ≤ 9223372036854775807) :
    ∃ q m, num_divide.f a b = some (q, m) ∧ wrap64 (wrap64 (q * b) + m) = a ∧ (m = 0 ∨ b > 0 ∧ m > 0 ∧ m < b ∨ b < 0 ∧ m < 0 ∧ m > b) := by
  have e := Int.mul_tdiv_add_tmod a b
  have hm : (Int.tmod a b).natAbs < b.natAbs := by rw [Int.natAbs_tmod]; exact Nat.mod_lt _ (by omega)
  have hr : -9223372036854775808 ≤ Int.tmod a b ∧ Int.tmod a b ≤ 9223372036854775807 := by omega
  have x := xor_neg (Int.tmod a b) b hr hb'
  have key : ∀ q m : Int, b * q + m = a → wrap64 (wrap64 (wrap64 q * b) + m) = a := by
    intro q m h
    apply B_inj (wrap64_range _) ha
    rw [B_wrap, B_add, B_wrap, B_mul, B_wrap, ← B_mul, ← B_add, Int.mul_comm, h]
  unfold num_divide.f
  rw [if_neg hb]
  by_cases h0 : Int.tmod a b = 0
  · rw [if_pos h0]; exact ⟨_, _, rfl, key _ _ e, Or.inl h0⟩
  · rw [if_neg h0]
    by_cases hx : Go.bits .xor .i64 (Int.tmod a b) b < 0
    · rw [if_pos hx]
      have x := x.1 hx
      have hw : wrap64 (Int.tmod a b + b) = Int.tmod a b + b := wrap64_in (by omega)
      have hq : wrap64 (wrap64 (Int.tdiv a b) - 1) = wrap64 (Int.tdiv a b - 1) := by
        rw [wrap64_B, wrap64_B (Int.tdiv a b - 1), B_sub, B_wrap, B_sub]
      refine ⟨_, _, rfl, ?_, ?_⟩
      · rw [hq, hw]; exact key _ _ (by rw [Int.mul_sub]; omega)
      · rw [hw]; omega
    · rw [if_neg hx]
      have x : ¬ _ := fun h => hx (x.2 h)
      exact ⟨_, _, rfl, key _ _ e, by omega⟩
theorem NumDivides : selkielaw02_NumDivides.Pure := by
  intro a b ha hb
  replace ha := wf_i64 ha
  replace hb := wf_i64 hb
  refine ⟨3, ?_⟩
  unfold selkielaw02_NumDivides.f
  rw [NumDivides.alive]; simp only [Option.bind_some, if_true]
  by_cases h0 : b = 0
  · subst h0
    have e4 : num_Do.f 3 4 a 0 = some (0, 2) := by simp [num_Do.f, num_Do.j0]
    have e5 : num_Do.f 3 5 a 0 = some (0, 2) := by simp [num_Do.f, num_Do.j0]
    rw [e4, e5]; rfl
  · obtain ⟨q, m, h, h1, h2⟩ := NumDivides.div0 a b h0 ha hb
    have e4 : num_Do.f 3 4 a b = some (q, 0) := by simp [num_Do.f, num_Do.j0, h0, h]
    have e5 : num_Do.f 3 5 a b = some (m, 0) := by simp [num_Do.f, num_Do.j0, h0, h]
    have e3 : num_Do.f 3 3 q b = some (wrap64 (q * b), 0) := by simp [num_Do.f]
    have e1 : num_Do.f 3 1 (wrap64 (q * b)) m = some (wrap64 (wrap64 (q * b) + m), 0) := by simp [num_Do.f]
    rw [e4, e5]; simp only [Option.bind_some]
    rw [if_neg h0, e3]; simp only [Option.bind_some]
    rw [e1]; simp only [Option.bind_some, if_true]
    rw [if_pos h1]
    by_cases hm : m = 0
    · rw [if_pos hm]
    · rw [if_neg hm]
      rcases h2 with h2 | h2 | h2
      · exact absurd h2 hm
      · rw [if_pos h2.1, if_pos h2.2.1, if_pos h2.2.2]
      · rw [if_neg (by omega), if_pos h2.1, if_pos h2.2.1]; simp [h2.2.2]
end Go.Proofs.Ytgjiknglgchgkaa.Pure
