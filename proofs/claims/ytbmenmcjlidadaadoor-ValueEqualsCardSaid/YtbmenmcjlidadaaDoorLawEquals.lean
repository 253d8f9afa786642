/- The plain law of ValueEquals. -/
import Derived.Test.YtbmenmcjlidadaaDoorLaws01
import Derived.Test.YtbmenmcjlidadaaDoorPAllx9
set_option linter.unusedVariables false
set_option linter.unusedSimpArgs false
namespace Go.Proofs.YtbmenmcjlidadaaDoor.Laws01
open Go.RowKit Go.Proofs.YtbmenmcjlidadaaDoor.PAll Go.Proofs.YtbmenmcjlidadaaDoorW.PrintWords Go.Proofs.YtbmenmcjlidadaaDoorW.PrintLast Go.Proofs.YtbmenmcjlidadaaDoorW.PrintMore Go.Proofs.YtbmenmcjlidadaaDoor.Maths Go.Proofs.YtbmenmcjlidadaaDoor.TabW Go.Proofs.YtbmenmcjlidadaaDoor.Val Go.Proofs.YtbmenmcjlidadaaDoor.Ref01
theorem type_empty (k : Int) : (typeS k).toList = [] ↔ ¬ (0 ≤ k ∧ k ≤ 7) := by
  rw [ByteArray.toList_eq]
  unfold typeS
  by_cases h : 0 ≤ k ∧ k ≤ 7
  · obtain rfl | rfl | rfl | rfl | rfl | rfl | rfl | rfl : k = 0 ∨ k = 1 ∨ k = 2 ∨ k = 3 ∨ k = 4 ∨ k = 5 ∨ k = 6 ∨ k = 7 := by omega
    all_goals simp
  · rw [if_neg (by omega), if_neg (by omega), if_neg (by omega), if_neg (by omega), if_neg (by omega), if_neg (by omega), if_neg (by omega), if_neg (by omega)]
    simp [h]
theorem equals (k n : Int) (s : ByteArray) (k2 n2 : Int) (s2 : ByteArray) (k3 n3 : Int) (s3 : ByteArray) : ∃ j, selkielaw01_ValueEquals.f j k n s k2 n2 s2 k3 n3 s3 = some true := by
  refine ⟨4, ?_⟩
  unfold selkielaw01_ValueEquals.f
  rw [alive_is]; simp only [Option.bind_some, if_true]
  rw [great_is 0 _ (by simp)]; simp only [Option.bind_some]
  by_cases hg : greatB [⟨k, n, s⟩, ⟨k2, n2, s2⟩, ⟨k3, n3, s3⟩] = true
  · rw [if_pos hg]
  rw [if_neg hg, raw_is, raw_is, raw_is, raw_is, raw_is, type_is]; simp only [Option.bind_some]
  have sym : rawB k n s k2 n2 s2 = rawB k2 n2 s2 k n s := by
    unfold rawB; rw [decide_eq_decide]
    constructor
    · rintro ⟨a, b, rfl, c, d⟩; exact ⟨a, b, rfl, c.symm, d.symm⟩
    · rintro ⟨a, b, rfl, c, d⟩; exact ⟨a, b, rfl, c.symm, d.symm⟩
  have tr : rawB k n s k2 n2 s2 = true → rawB k2 n2 s2 k3 n3 s3 = true → rawB k n s k3 n3 s3 = true := by
    unfold rawB; rw [decide_eq_true_eq, decide_eq_true_eq, decide_eq_true_eq]
    rintro ⟨a, b, rfl, c, d⟩ ⟨_, _, rfl, e, f⟩; exact ⟨a, b, rfl, c.trans e, d.trans f⟩
  have self : (rawB k n s k n s != ((typeS k).toList != ([] : List UInt8))) = false := by
    have e : rawB k n s k n s = ((typeS k).toList != ([] : List UInt8)) := by
      unfold rawB; rw [Bool.eq_iff_iff, decide_eq_true_eq, bne_iff_ne, ne_eq, type_empty]
      constructor
      · rintro ⟨a, b, _⟩ h; exact h ⟨a, b⟩
      · intro h
        have h2 : 0 ≤ k ∧ k ≤ 7 := Classical.byContradiction h
        exact ⟨h2.1, h2.2, rfl, rfl, rfl⟩
    rw [e]; simp
  rw [← sym]
  have fin : selkielaw01_ValueEquals.j0 4 (rawB k n s k2 n2 s2) false k n s k2 n2 s2 = some true := by
    rw [selkielaw01_ValueEquals.j0, if_neg (by decide), key_is, key_is]; simp only [Option.bind_some]
    unfold keyE
    by_cases h1 : 1 ≤ k ∧ k ≤ 7
    · rw [if_pos h1, if_pos rfl]
      by_cases h2 : 1 ≤ k2 ∧ k2 ≤ 7
      · rw [if_pos h2, if_pos rfl]; congr 1
        unfold keyK; rw [if_pos h1, if_pos h2]
        have e : (k == k2 && (ownN k n == ownN k2 n2 && ((ownS k s).toList == (ownS k2 s2).toList))) = rawB k n s k2 n2 s2 := by
          unfold rawB; rw [Bool.eq_iff_iff, decide_eq_true_eq]; simp only [Bool.and_eq_true, beq_iff_eq, toList_inj]
          constructor
          · rintro ⟨a, b, c⟩; exact ⟨by omega, by omega, a, b, c⟩
          · rintro ⟨_, _, a, b, c⟩; exact ⟨a, b, c⟩
        rw [e]; simp
      · rw [if_neg h2, if_neg (by decide)]
    · rw [if_neg h1, if_neg (by decide)]
  rw [self]
  rw [if_neg (by simp)]
  by_cases h1 : rawB k n s k2 n2 s2 = true
  · rw [if_pos h1]
    by_cases h2 : rawB k2 n2 s2 k3 n3 s3 = true
    · rw [if_pos h2, if_pos (tr h1 h2)]; exact fin
    · rw [if_neg h2]; exact fin
  · rw [if_neg h1]; exact fin
theorem equals_walk (k0 n0 : Int) (s0 : ByteArray) (k1 n1 : Int) (s1 : ByteArray) (k2 n2 : Int) (s2 : ByteArray) (w : World) (hT : Tab w)  :
    Calls Tryd.prog 5 #[.agg #[.int .i64 k0, .int .i64 n0, .string s0], .agg #[.int .i64 k1, .int .i64 n1, .string s1], .agg #[.int .i64 k2, .int .i64 n2, .string s2]] w fun e w' => e = .returned (.bool true) ∧ Below w.heap.size w w' := by
  obtain ⟨j, hj⟩ := equals k0 n0 s0 k1 n1 s1 k2 n2 s2 
  exact selkielaw01_ValueEquals.calls j k0 n0 s0 k1 n1 s1 k2 n2 s2 true w hT rfl hj
end Go.Proofs.YtbmenmcjlidadaaDoor.Laws01
