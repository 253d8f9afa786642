/- The plain law of NumCounts: a loop that goes so often never passes its end. -/
import Derived.Test.YtgjiknglgchgkaaPNumCountsx2
import Derived.Test.YtgjiknglgchgkaaMaths
set_option linter.unusedVariables false
set_option linter.unusedSimpArgs false
namespace Go.Proofs.Ytgjiknglgchgkaa.NumCountsPure
open Go.RowKit Go.Proofs.Ytgjiknglgchgkaa.PNumCounts Go.Proofs.YtgjiknglgchgkaaW.PrintWords Go.Proofs.YtgjiknglgchgkaaW.PrintLast Go.Proofs.YtgjiknglgchgkaaW.PrintMore Go.Proofs.Ytgjiknglgchgkaa.Maths
theorem u64_in (x : Int) (h : 0 ≤ x ∧ x ≤ 18446744073709551615) : IntKind.u64.wrap x = x := by rw [u64_wrap]; omega
theorem count_up (a b c : Int) (k : Nat) (hc : 0 < c) (hcm : c ≤ 9223372036854775807) (hab : a ≤ b) (hr : b - a ≤ 9223372036854775807) : num_Count.f (k + 1) a b c = some ((b - a) / c + 1, 0) := by
  unfold num_Count.f; rw [if_pos hc]
  simp only [num_Count.j0, decide_eq_true hab, if_true]
  rw [wrap64_in (show -9223372036854775808 ≤ b - a ∧ b - a ≤ 9223372036854775807 by omega), u64_in (b - a) (by omega), u64_in c (by omega), if_neg (by omega)]
  rw [Int.tdiv_eq_ediv_of_nonneg (by omega)]
  have h1 := Int.ediv_le_self c (show 0 ≤ b - a by omega)
  have h2 := Int.ediv_nonneg (show 0 ≤ b - a by omega) (show 0 ≤ c by omega)
  rw [u64_in _ (by omega), if_pos (by omega), u64_in _ (by omega)]
theorem count_down (a b c : Int) (k : Nat) (hc : c < 0) (hcm : -9223372036854775807 ≤ c) (hab : b ≤ a) (hr : a - b ≤ 9223372036854775807) : num_Count.f (k + 2) a b c = some ((a - b) / (-c) + 1, 0) := by
  unfold num_Count.f; rw [if_neg (by omega)]
  simp only [num_Count.j0, num_Count.j1, if_neg (show ¬ (false = true) by decide)]
  rw [if_pos hc, decide_eq_true (show a ≥ b by omega), if_pos rfl]
  rw [wrap64_in (show -9223372036854775808 ≤ a - b ∧ a - b ≤ 9223372036854775807 by omega), wrap64_in (show -9223372036854775808 ≤ -c ∧ -c ≤ 9223372036854775807 by omega), u64_in (a - b) (by omega), u64_in (-c) (by omega), if_neg (by omega)]
  rw [Int.tdiv_eq_ediv_of_nonneg (by omega)]
  have h1 := Int.ediv_le_self (-c) (show 0 ≤ a - b by omega)
  have h2 := Int.ediv_nonneg (show 0 ≤ a - b by omega) (show 0 ≤ -c by omega)
  rw [u64_in _ (by omega), if_pos (by omega), u64_in _ (by omega)]
theorem count_no (a b c : Int) (k : Nat) (h : 0 < c ∧ b < a ∨ c < 0 ∧ a < b) : num_Count.f (k + 2) a b c = some (0, 0) := by
  unfold num_Count.f
  rcases h with h | h
  · rw [if_pos h.1]
    simp only [num_Count.j0, num_Count.j1, if_neg (show ¬ (false = true) by decide), decide_eq_false (show ¬ a ≤ b by omega)]
    rw [if_neg (by omega), if_neg (by omega)]
  · rw [if_neg (by omega)]
    simp only [num_Count.j0, num_Count.j1, if_neg (show ¬ (false = true) by decide)]
    rw [if_pos h.1, decide_eq_false (by omega), if_neg (by decide), if_neg (by omega)]
theorem div_is (way left size : Int) (hs : 0 < size) (h0 : 0 ≤ left) (h1 : left < size) : (way * size + left) / size = way := by
  rw [Int.add_comm, Int.add_mul_ediv_right _ _ (by omega), Int.ediv_eq_zero_of_lt h0 h1, Int.zero_add]
theorem last (f way step fin : Int) (hf : -1099511627776 < f ∧ f < 1099511627776) (hw : 0 ≤ way ∧ way < 1000000) (size left : Int) (hs : 0 < size ∧ size ≤ 2147483648) (hl : 0 ≤ left ∧ left < size)
    (hp : 0 ≤ way * size ∧ way * size ≤ 2147483648000000)
    (h : step = size ∧ fin = f + way * size + left ∨ step = -size ∧ fin = f - way * size - left) : selkielaw02_NumCounts.j1 4 f way step fin = some true := by
  simp only [selkielaw02_NumCounts.j1]
  rw [wrap64_in (show -9223372036854775808 ≤ step ∧ step ≤ 9223372036854775807 by omega)]
  rw [u64_in way (by omega), u64_in (way + 1) (by omega)]
  have d := div_is way left size hs.1 hl.1 hl.2
  rcases h with ⟨h1, h2⟩ | ⟨h1, h2⟩
  · rw [count_up f fin step 2 (by omega) (by omega) (by omega) (by omega)]
    have e : fin - f = way * size + left := by omega
    rw [e, h1, d]; simp only [Option.bind_some, if_true]
    by_cases hz : fin = f
    · rw [count_up fin f size 2 (by omega) (by omega) (by omega) (by omega)]
      have e2 : f - fin = 0 := by omega
      rw [e2]; simp [hz]
    · rw [count_no fin f size 1 (by omega)]; simp [hz]
  · rw [count_down f fin step 1 (by omega) (by omega) (by omega) (by omega)]
    have e : f - fin = way * size + left := by omega
    have e' : -step = size := by omega
    rw [e, e', d]; simp only [Option.bind_some, if_true]
    by_cases hz : fin = f
    · rw [count_down fin f step 1 (by omega) (by omega) (by omega) (by omega)]
      have e2 : fin - f = 0 := by omega
      rw [e2]; simp [hz]
    · rw [count_no fin f step 1 (by omega)]; simp [hz]
theorem pure_law (f0 way0 step rest : Int) (hf : -9223372036854775808 ≤ f0 ∧ f0 ≤ 9223372036854775807) (hw : 0 ≤ way0 ∧ way0 ≤ 4294967295) (hs : -2147483648 ≤ step ∧ step ≤ 2147483647) (hr : 0 ≤ rest ∧ rest ≤ 65535) : selkielaw02_NumCounts.f 5 f0 way0 step rest = some true := by
  unfold selkielaw02_NumCounts.f
  have hal : selkielaw02_alive.f 5 = some true := at_rounds (g := fun k => selkielaw02_alive.f k) (fun k => selkielaw02_alive.mono k) (show 3 ≤ 5 by omega) (by decide +kernel)
  rw [hal]; simp only [Option.bind_some, if_true]
  by_cases h0 : step = 0
  · rw [if_pos h0]; simp [num_Count.f, num_Count.j0, num_Count.j1]
  rw [if_neg h0]
  have e1 : Int.tmod way0 1000000 = way0 % 1000000 := Int.tmod_eq_emod_of_nonneg hw.1
  have e2 : -1099511627776 < Int.tmod f0 1099511627776 ∧ Int.tmod f0 1099511627776 < 1099511627776 := by
    have h := Int.natAbs_tmod f0 1099511627776
    have h2 : f0.natAbs % (1099511627776 : Int).natAbs < (1099511627776 : Int).natAbs := Nat.mod_lt _ (by decide)
    rw [← h] at h2
    have : (1099511627776 : Int).natAbs = 1099511627776 := rfl
    omega
  rw [e1]
  generalize Int.tmod f0 1099511627776 = f at e2 ⊢
  have e3 : 0 ≤ way0 % 1000000 ∧ way0 % 1000000 < 1000000 := by omega
  generalize way0 % 1000000 = way at e3 ⊢
  have ws : wrap64 step = step := wrap64_in (by omega)
  rw [ws]
  have go : ∀ size : Int, (0 < step ∧ size = step ∨ step < 0 ∧ size = -step) → selkielaw02_NumCounts.j0 5 f way step rest size = some true := by
    intro size hz
    have hs1 : 0 < size ∧ size ≤ 2147483648 := by omega
    simp only [selkielaw02_NumCounts.j0]
    rw [if_neg (by omega), wrap64_in (show -9223372036854775808 ≤ rest ∧ rest ≤ 9223372036854775807 by omega), Int.tmod_eq_emod_of_nonneg hr.1]
    have hl : 0 ≤ rest % size ∧ rest % size < size := ⟨Int.emod_nonneg _ (by omega), Int.emod_lt_of_pos _ hs1.1⟩
    generalize rest % size = left at hl ⊢
    have hp : 0 ≤ way * size ∧ way * size ≤ 2147483648000000 := by
      refine ⟨Int.mul_nonneg e3.1 (by omega), ?_⟩
      have a := Int.mul_le_mul_of_nonneg_right (show way ≤ 1000000 by omega) (show 0 ≤ size by omega)
      omega
    rw [wrap64_in (show -9223372036854775808 ≤ way ∧ way ≤ 9223372036854775807 by omega), wrap64_in (show -9223372036854775808 ≤ way * size ∧ way * size ≤ 9223372036854775807 by omega)]
    have l := last f way step
    generalize hg : way * size = p at hp l ⊢
    rw [wrap64_in (show -9223372036854775808 ≤ f - p ∧ f - p ≤ 9223372036854775807 by omega), wrap64_in (show -9223372036854775808 ≤ f + p ∧ f + p ≤ 9223372036854775807 by omega)]
    rw [wrap64_in (show -9223372036854775808 ≤ f - p - left ∧ f - p - left ≤ 9223372036854775807 by omega), wrap64_in (show -9223372036854775808 ≤ f + p + left ∧ f + p + left ≤ 9223372036854775807 by omega)]
    rcases hz with hz | hz
    · rw [if_neg (by omega)]; exact l _ e2 e3 size left hs1 hl (by rw [hg]; exact hp) (Or.inl ⟨hz.2.symm, by rw [hg]⟩)
    · rw [if_pos (by omega)]; exact l _ e2 e3 size left hs1 hl (by rw [hg]; exact hp) (Or.inr ⟨by omega, by rw [hg]⟩)
  by_cases hn : step < 0
  · rw [if_pos hn, wrap64_in (show -9223372036854775808 ≤ -step ∧ -step ≤ 9223372036854775807 by omega)]; exact go _ (Or.inr ⟨hn, rfl⟩)
  · rw [if_neg hn]; exact go _ (Or.inl ⟨by omega, rfl⟩)
theorem walk (a b c d : Int) (w : World) (ha : -9223372036854775808 ≤ a ∧ a ≤ 9223372036854775807) (hb : (Lit.int .u32 b).wf = true) (hc : (Lit.int .i32 c).wf = true) (hd : (Lit.int .u16 d).wf = true) :
    Calls Try.prog 5 #[.agg #[.int .i64 a, .int .u32 b, .int .i32 c, .int .u16 d]] w fun e w' => e = .returned (.bool true) ∧ Below w.heap.size w w' := by
  simp [Lit.wf, IntKind.min, IntKind.max, IntKind.signed, IntKind.bits] at hb hc hd
  exact selkielaw02_NumCounts.calls 5 a b c d true w (pure_law a b c d ha (by omega) (by omega) (by omega))
end Go.Proofs.Ytgjiknglgchgkaa.NumCountsPure
