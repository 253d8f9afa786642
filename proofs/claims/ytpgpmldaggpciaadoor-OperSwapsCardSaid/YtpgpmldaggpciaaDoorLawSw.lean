/- The plain law OperSwaps. -/
import Derived.Test.YtpgpmldaggpciaaDoorPSwx
set_option linter.unusedVariables false
set_option linter.unusedSimpArgs false
namespace Go.Proofs.YtpgpmldaggpciaaDoor.LawSw
open Go.RowKit Go.Proofs.YtpgpmldaggpciaaDoor.PSw Go.Proofs.YtpgpmldaggpciaaDoorW.PrintWords Go.Proofs.YtpgpmldaggpciaaDoorW.PrintLast Go.Proofs.YtpgpmldaggpciaaDoorW.PrintMore Go.Proofs.YtpgpmldaggpciaaDoor.Maths Go.Proofs.YtpgpmldaggpciaaDoor.TabW Go.Proofs.YtpgpmldaggpciaaDoor.GW Go.Proofs.YtpgpmldaggpciaaDoor.Val
def greatB (l : List S32) : Bool := l.any fun v => decide (10000 < v.f2.size)
theorem great_loop (l : List S32) (hm : l.length ≤ 3) (d : Nat) : ∀ (k i : Nat), i + d = l.length → d < k → selkielaw11_great.l0 k l (l.length : Int) (i : Int) = some (greatB (l.drop i)) := by
  induction d with
  | zero =>
    intro k i h hk
    obtain ⟨k, rfl⟩ : ∃ j, k = j + 1 := ⟨k - 1, by omega⟩
    rw [selkielaw11_great.l0, if_neg (by omega), List.drop_eq_nil_of_le (by omega)]; rfl
  | succ d ih =>
    intro k i h hk
    obtain ⟨k, rfl⟩ : ∃ j, k = j + 1 := ⟨k - 1, by omega⟩
    rw [selkielaw11_great.l0, if_pos (by omega), if_pos (by omega), if_pos (by omega)]
    have hi : i < l.length := by omega
    have e : rd_T32 l (i : Int) = l[i] := by unfold rd_T32; rw [Int.toNat_natCast, List.getD_eq_getElem?_getD, List.getElem?_eq_getElem hi]; rfl
    rw [e, List.drop_eq_getElem_cons hi]
    by_cases hg : ((l[i].f2.size : Nat) : Int) > 10000
    · rw [if_pos hg]; congr 1; unfold greatB; rw [List.any_cons, decide_eq_true (by omega), Bool.true_or]
    · rw [if_neg hg, wrap64_in (by omega)]
      have := ih k (i + 1) (by omega) (by omega)
      rw [show ((i : Int) + 1) = ((i + 1 : Nat) : Int) by omega, this]; congr 1; unfold greatB; rw [List.any_cons, decide_eq_false (by omega), Bool.false_or]
theorem great_is (k : Nat) (l : List S32) (hm : l.length ≤ 3) : selkielaw11_great.f (k + 4) l = some (greatB l) := by
  unfold selkielaw11_great.f
  have := great_loop l hm l.length (k + 4) 0 (by omega) (by omega)
  simpa using this
theorem ne_size (b : ByteArray) (h : 0 < b.size) : b.toList ≠ [] := by
  intro e
  rw [ByteArray.toList_eq] at e
  have h1 : b.data.toList.length = 0 := by rw [e]; rfl
  rw [Array.length_toList] at h1
  have h2 : b.size = 0 := h1
  omega
theorem attS_ne (a : ByteArray) (k : Int) : (attS a k).toList ≠ [] := by
  apply ne_size; unfold attS; simp only [ByteArray.size_append, sizeL, List.length_cons, List.length_nil]; omega
theorem cmpS_ne (k k2 : Int) : (cmpS k k2).toList ≠ [] := by
  apply ne_size; unfold cmpS; split <;> (simp only [ByteArray.size_append, sizeL, List.length_cons, List.length_nil]; omega)
theorem blame_ne (op k n : Int) (s : ByteArray) (k2 n2 : Int) (s2 : ByteArray) (ho : (1 ≤ op ∧ op ≤ 11) ∨ op = 14 ∨ op = 15) : (blameT op k n s k2 n2 s2).toList ≠ [] := by
  unfold blameT
  by_cases h11 : op = 11
  · rw [if_pos h11]; exact attS_ne _ _
  rw [if_neg h11, if_neg (show ¬ (op = 16 ∨ op = 17) by omega)]
  by_cases h14 : op = 14 ∨ op = 15
  · rw [if_pos h14]; exact cmpS_ne _ _
  rw [if_neg h14, if_neg (show ¬ op = 23 by omega), if_neg (show ¬ (op = 20 ∨ op = 21) by omega), if_neg (show ¬ (op < 1 ∨ op > 10) by omega)]
  exact attS_ne _ _
theorem event_ne (op : Int) (h : 1 ≤ op ∧ op ≤ 17) : (eventS op).toList ≠ [] := by
  apply ne_size
  obtain rfl | rfl | rfl | rfl | rfl | rfl | rfl | rfl | rfl | rfl | rfl | rfl | rfl | rfl | rfl | rfl | rfl : op = 1 ∨ op = 2 ∨ op = 3 ∨ op = 4 ∨ op = 5 ∨ op = 6 ∨ op = 7 ∨ op = 8 ∨ op = 9 ∨ op = 10 ∨ op = 11 ∨ op = 12 ∨ op = 13 ∨ op = 14 ∨ op = 15 ∨ op = 16 ∨ op = 17 := by omega
  all_goals decide
section
variable {k n : Int} {s : ByteArray} {k2 n2 : Int} {s2 : ByteArray}
theorem j2_is (j : Nat) (e o : Int) (hn : inR n) (hs : s.size ≤ 140737488351232) (ho : o ≠ 16 ∧ o ≠ 17 ∧ o ≠ 13) (hb : e = 18 → (1 ≤ o ∧ o ≤ 11) ∨ o = 14 ∨ o = 15) :
    selkielaw11_OperSwaps.j2 (j + 1) e o false k n s k2 n2 s2 = some true := by
  rw [selkielaw11_OperSwaps.j2, if_neg (by decide)]
  have hsw : PSw.oper_Swap.f o = some (o, false, false) := by
    unfold PSw.oper_Swap.f swapF PDo.oper_Swap.f; rw [if_neg ho.1, if_neg ho.2.1, if_neg ho.2.2]
  rw [hsw]; simp only [Option.bind_some]
  rw [if_neg (by decide), if_neg (by decide)]
  by_cases he : e = 18
  · rw [if_pos he]
    have hbl : PSw.oper_Blame.f o k n s k2 n2 s2 = some (blameT o k n s k2 n2 s2) := by unfold PSw.oper_Blame.f blameF; rw [if_pos ⟨hn, hs⟩]
    rw [hbl]; simp only [Option.bind_some]
    have := blame_ne o k n s k2 n2 s2 (hb he)
    congr 1
    simpa using this
  · rw [if_neg he]
theorem j1_is (j : Nat) (op e o k3 n3 : Int) (s3 : ByteArray) (hn : inR n) (hs : s.size ≤ 140737488351232) (ho : o ≠ 16 ∧ o ≠ 17 ∧ o ≠ 13) (hb : e = 18 → (1 ≤ o ∧ o ≤ 11) ∨ o = 14 ∨ o = 15)
    (hop : 1 ≤ op ∧ op ≤ 17) (hev : eventS op = eventS o) : selkielaw11_OperSwaps.j1 (j + 2) op e o e k n s k2 n2 s2 k3 n3 s3 k3 n3 s3 = some true := by
  have e1 : PSw.oper_Event.f op = some (eventS op) := rfl
  have e2 : PSw.oper_Event.f o = some (eventS op) := by rw [hev]; rfl
  have hne : ((eventS op).toList == ([] : List UInt8)) = false := by simpa using event_ne op hop
  rw [selkielaw11_OperSwaps.j1, e1, e2, if_pos rfl]
  simp only [Option.bind_some]
  have hq : ¬ ((!k3 == k3 || (!n3 == n3 || !s3.toList == s3.toList)) = true) := by simp
  rw [if_pos trivial, hne, j2_is j e o hn hs ho hb, if_neg hq, ite_self]
end
theorem swaps_is (a k n : Int) (s : ByteArray) (k2 n2 : Int) (s2 : ByteArray) (ha : 0 ≤ a ∧ a ≤ 255) (hn : inR n) (hn2 : inR n2) : selkielaw11_OperSwaps.f 4 a k n s k2 n2 s2 = some true := by
  unfold selkielaw11_OperSwaps.f
  have h0 : PSw.selkielaw11_alive.f = some true := rfl
  rw [h0, great_is 0 _ (by simp)]; simp only [Option.bind_some]
  rw [if_pos trivial]
  by_cases hg : greatB [⟨k, n, s⟩, ⟨k2, n2, s2⟩] = true
  · rw [if_pos hg]
  rw [if_neg hg]
  have hz : s.size ≤ 10000 ∧ s2.size ≤ 10000 := by
    simp [greatB] at hg; omega
  have hw : ∃ op : Int, wrap64 (1 + Int.tmod (wrap64 a) 17) = op ∧ 1 ≤ op ∧ op ≤ 17 := by
    refine ⟨_, rfl, ?_⟩
    rw [wrap64_in (show _ ≤ a ∧ a ≤ _ by omega), Int.tmod_eq_emod_of_nonneg ha.1, wrap64_in (by omega)]
    omega
  obtain ⟨op, hop, h1, h2⟩ := hw
  rw [hop]
  clear hop ha hg
  have hdo : ∀ o k n s k2 n2 s2, inR n → inR n2 → s.size ≤ 10000 → s2.size ≤ 10000 → PSw.oper_Do.f o k n s k2 n2 s2 1048576 = some (doT o k n s k2 n2 s2 1048576) := by
    intro o k n s k2 n2 s2 hn hn2 hs hs2
    unfold PSw.oper_Do.f doF; rw [if_pos ⟨hn, hn2, by omega, by omega⟩]
  rw [hdo op k n s k2 n2 s2 hn hn2 hz.1 hz.2]
  simp only [Option.bind_some]
  by_cases h16 : op = 16
  · subst h16
    have hsw : PSw.oper_Swap.f 16 = some (14, true, false) := rfl
    rw [hsw]; simp only [Option.bind_some]
    rw [if_pos trivial, selkielaw11_OperSwaps.j0, hdo 14 k2 n2 s2 k n s hn2 hn hz.2 hz.1]
    simp only [Option.bind_some]
    rw [if_neg (by decide)]
    have e : doT 16 k n s k2 n2 s2 1048576 = doT 14 k2 n2 s2 k n s 1048576 := by unfold doT; rw [if_pos rfl, if_neg (by decide), if_neg (by decide), if_neg (by decide)]
    rw [e]
    exact j1_is 1 16 _ 14 _ _ _ hn2 (by omega) (by decide) (fun _ => Or.inr (Or.inl rfl)) (by decide) (by decide)
  by_cases h17 : op = 17
  · subst h17
    have hsw : PSw.oper_Swap.f 17 = some (15, true, false) := rfl
    rw [hsw]; simp only [Option.bind_some]
    rw [if_pos trivial, selkielaw11_OperSwaps.j0, hdo 15 k2 n2 s2 k n s hn2 hn hz.2 hz.1]
    simp only [Option.bind_some]
    rw [if_neg (by decide)]
    have e : doT 17 k n s k2 n2 s2 1048576 = doT 15 k2 n2 s2 k n s 1048576 := by unfold doT; rw [if_neg (by decide), if_pos rfl, if_neg (by decide), if_neg (by decide), if_neg (by decide)]
    rw [e]
    exact j1_is 1 17 _ 15 _ _ _ hn2 (by omega) (by decide) (fun _ => Or.inr (Or.inr rfl)) (by decide) (by decide)
  by_cases h13 : op = 13
  · subst h13
    have hsw : PSw.oper_Swap.f 13 = some (12, false, true) := rfl
    rw [hsw]; simp only [Option.bind_some]
    rw [if_neg (by decide), selkielaw11_OperSwaps.j0, hdo 12 k n s k2 n2 s2 hn hn2 hz.1 hz.2]
    simp only [Option.bind_some]
    rw [if_pos trivial]
    have e1 : doT 12 k n s k2 n2 s2 1048576 = bV (rawB k n s k2 n2 s2) := by
      unfold doT baseT; rw [if_neg (by decide), if_neg (by decide), if_neg (by decide), if_neg (by decide), if_pos rfl, Bool.bne_false]
    have e2 : doT 13 k n s k2 n2 s2 1048576 = bV (!rawB k n s k2 n2 s2) := by
      unfold doT baseT; rw [if_neg (by decide), if_neg (by decide), if_pos rfl, if_neg (by decide), if_pos rfl, Bool.bne_true]
    rw [e1, e2]
    have e3 : ∀ b : Bool, PSw.value_Truth.f (bV b).1 (bV b).2.1 (bV b).2.2.1 = some b := by intro b; cases b <;> rfl
    rw [e3]; simp only [Option.bind_some]
    have e4 : ∀ b : Bool, PSw.value_OfBool.f b = some ((bV b).1, (bV b).2.1, (bV b).2.2.1) := by intro b; cases b <;> rfl
    rw [e4]; simp only [Option.bind_some]
    exact j1_is 1 13 0 12 _ _ _ hn (by omega) (by decide) (fun h => by cases h) (by decide) (by decide)
  have hsw : PSw.oper_Swap.f op = some (op, false, false) := by
    unfold PSw.oper_Swap.f swapF PDo.oper_Swap.f; rw [if_neg h16, if_neg h17, if_neg h13]
  rw [hsw]; simp only [Option.bind_some]
  rw [if_neg (by decide), selkielaw11_OperSwaps.j0, hdo op k n s k2 n2 s2 hn hn2 hz.1 hz.2]
  simp only [Option.bind_some]
  rw [if_neg (by decide)]
  refine j1_is 1 op _ op _ _ _ hn (by omega) ⟨h16, h17, h13⟩ (fun he => ?_) ⟨h1, h2⟩ rfl
  by_cases h12 : op = 12
  · subst h12; exact absurd he (by intro h; cases h)
  · omega
theorem swaps_walk (a k n : Int) (s : ByteArray) (k2 n2 : Int) (s2 : ByteArray) (w : World) (hT : Tab w) (ha : 0 ≤ a ∧ a ≤ 255) (hn : inR n) (hn2 : inR n2) :
    Calls Tryd.prog 9 #[.int .u8 a, .agg #[.int .i64 k, .int .i64 n, .string s], .agg #[.int .i64 k2, .int .i64 n2, .string s2]] w fun e w' => e = .returned (.bool true) ∧ Below w.heap.size w w' :=
  selkielaw11_OperSwaps.calls 4 a k n s k2 n2 s2 true w hT rfl (swaps_is a k n s k2 n2 s2 ha hn hn2)
end Go.Proofs.YtpgpmldaggpciaaDoor.LawSw
