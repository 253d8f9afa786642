/- The statement OperNumbers, walked by hand. -/
import Derived.Test.YtpgpmldaggpciaaDoorLawNu2
import Derived.Test.YtpgpmldaggpciaaDoorLawNu3
import Derived.Test.YtpgpmldaggpciaaDoorGreat
import Derived.Test.YtpgpmldaggpciaaDoorOD
import Derived.Test.YtpgpmldaggpciaaDoorAliveE
set_option linter.unusedVariables false
set_option linter.unusedSimpArgs false
namespace Go.Proofs.YtpgpmldaggpciaaDoor.GW
open Go.RowKit Go.Proofs.YtpgpmldaggpciaaDoorW.PrintWords Go.Proofs.YtpgpmldaggpciaaDoorW.PrintLast Go.Proofs.YtpgpmldaggpciaaDoorW.PrintMore Go.Proofs.YtpgpmldaggpciaaDoor.Maths Go.Proofs.YtpgpmldaggpciaaDoor.TabW Go.Proofs.YtpgpmldaggpciaaDoor.HK Go.Proofs.YtpgpmldaggpciaaDoor.Val
theorem nilnil : ((⟨#[]⟩ : ByteArray) ++ (⟨#[]⟩ : ByteArray)).toList = [] := by rw [ByteArray.toList_eq, ByteArray.data_append]; rfl
theorem size0 (S : ByteArray) (h : S.size = 0) : S = ⟨#[]⟩ := by
  apply ByteArray.ext; exact Array.eq_empty_of_size_eq_zero h
theorem joinA (S T : ByteArray) : joinT (S, true) (T, true) ((S.size : Int) + (T.size : Int)) = (3, 0, S ++ T, 0) := by
  unfold joinT
  rw [if_pos ⟨rfl, rfl⟩, if_neg]
  unfold mx; split <;> dsimp only <;> omega
theorem joinB (S T : ByteArray) (hz : ¬ ((S.size : Int) + (T.size : Int) = 0)) : joinT (S, true) (T, true) ((S.size : Int) + (T.size : Int) - 1) = no 3 := by
  unfold joinT
  rw [if_pos ⟨rfl, rfl⟩, if_pos]
  unfold mx; split <;> dsimp only <;> omega
theorem doArN (op : Int) (k0 n0 : Int) (s0 : ByteArray) (k1 n1 : Int) (s1 : ByteArray) (most : Int) (h : 1 ≤ op ∧ op ≤ 10) : doT op k0 n0 s0 k1 n1 s1 most = arithT op (numberT k0 n0 s0) (numberT k1 n1 s1) := by
  unfold doT
  rw [if_neg (by omega), if_neg (by omega), if_neg (by omega)]
  unfold baseT
  rw [if_neg (by omega), if_neg (by omega), if_neg (by omega), if_neg (by omega), if_neg (by omega)]
theorem numbers_walk (m : Int) (k0 n0 : Int) (s0 : ByteArray) (k1 n1 : Int) (s1 : ByteArray) (hm : 0 ≤ m ∧ m ≤ 255) (hn0 : inR n0) (hn1 : inR n1) (w : World) (hT : Tab w) : Calls Tryd.prog 10 #[.int .u8 m, .agg #[.int .i64 k0, .int .i64 n0, .string s0], .agg #[.int .i64 k1, .int .i64 n1, .string s1]] w fun e w' => e = .returned (.bool true) ∧ Below w.heap.size w w' := by
  by_cases g : (decide (10000 < (s0.size : Int)) || decide (10000 < (s1.size : Int))) = true
  · exact nuG m k0 n0 s0 k1 n1 s1 (fun b W h => by rw [← g]; exact hGreat2 k0 n0 s0 k1 n1 s1 b W _ _ h rfl rfl) w hT
  have g' := Bool.eq_false_iff.mpr g
  have hg := fun b W h => (by rw [← g']; exact hGreat2 k0 n0 s0 k1 n1 s1 b W _ _ h rfl rfl : Calls Tryd.prog 44 #[.slice (some ⟨b, 0, none⟩) 2 2] W fun e w' => e = .returned (.bool false) ∧ Below W.heap.size W w')
  have hz : s0.size ≤ 10000 ∧ s1.size ≤ 10000 := by simp at g'; omega
  clear g g'
  obtain ⟨z0, z1⟩ := hz
  obtain ⟨op, hop⟩ : ∃ op, wrap64 (1 + (wrap64 m).tmod 10) = op := ⟨_, rfl⟩
  have hr : 1 ≤ op ∧ op ≤ 10 := by
    have e : wrap64 m = m := wrap64_in (by omega)
    rw [e, Int.tmod_eq_emod_of_nonneg hm.1] at hop
    have e2 : 0 ≤ m % 10 ∧ m % 10 ≤ 9 := by omega
    clear e
    rw [wrap64_in (by omega)] at hop
    omega
  have HOP := Lib.hid hop
  clear hop hm
  have hx : numberF k0 n0 s0 = some (numberT k0 n0 s0) := by unfold numberF; rw [if_pos (by omega)]
  have hy : numberF k1 n1 s1 = some (numberT k1 n1 s1) := by unfold numberF; rw [if_pos (by omega)]
  have hs : stringF k0 n0 s0 = some (stringT k0 n0 s0) := by unfold stringF; rw [if_pos hn0]
  have ht : stringF k1 n1 s1 = some (stringT k1 n1 s1) := by unfold stringF; rw [if_pos hn1]
  have d1 : doF op k0 n0 s0 k1 n1 s1 0 = some (arithT op (numberT k0 n0 s0) (numberT k1 n1 s1)) := by unfold doF; rw [if_pos ⟨⟨hn0, hn1⟩, by omega, by omega⟩, doArN op k0 n0 s0 k1 n1 s1 0 hr]
  have d2 : doF op 2 (numberT k0 n0 s0).1 ⟨#[]⟩ 2 (numberT k1 n1 s1).1 ⟨#[]⟩ 0 = some (arithT op ((numberT k0 n0 s0).1, true) ((numberT k1 n1 s1).1, true)) := by
    unfold doF; rw [if_pos ⟨⟨numberT_range k0 n0 s0 hn0, numberT_range k1 n1 s1 hn1⟩, by decide, by decide⟩, doArN op 2 _ _ 2 _ _ 0 hr]; rfl
  have d3 : ∀ most, doF 11 k0 n0 s0 k1 n1 s1 most = some (joinT (stringT k0 n0 s0) (stringT k1 n1 s1) most) := by
    intro most; unfold doF; rw [if_pos ⟨⟨hn0, hn1⟩, by omega, by omega⟩]; rfl
  have l0 : (stringT k0 n0 s0).1.size ≤ 10000 := by
    have h := itoaS_size n0 hn0
    unfold stringT; split
    · show (itoaS n0).size ≤ _; omega
    · split
      · exact z0
      · decide
  have l1 : (stringT k1 n1 s1).1.size ≤ 10000 := by
    have h := itoaS_size n1 hn1
    unfold stringT; split
    · show (itoaS n1).size ≤ _; omega
    · split
      · exact z1
      · decide
  generalize numberT k0 n0 s0 = X at *
  generalize numberT k1 n1 s1 = Y at *
  generalize stringT k0 n0 s0 = Sx at *
  generalize stringT k1 n1 s1 = Tx at *
  obtain ⟨x, a⟩ := X
  obtain ⟨y, b⟩ := Y
  obtain ⟨S, so⟩ := Sx
  obtain ⟨T, t⟩ := Tx
  dsimp only at d2 l0 l1
  have d4 := d3 ((S.size : Int) + (T.size : Int) - 1)
  replace d3 := d3 ((S.size : Int) + (T.size : Int))
  have hw1 : IntKind.i64.wrap ((S.size : Int) + (T.size : Int)) = (S.size : Int) + (T.size : Int) := by rw [IntKind.wrap_i64]; omega
  have hw2 : IntKind.i64.wrap ((S.size : Int) + (T.size : Int) - 1) = (S.size : Int) + (T.size : Int) - 1 := by rw [IntKind.wrap_i64]; omega
  have hv1 : wrap64 ((S.size : Int) + (T.size : Int)) = (S.size : Int) + (T.size : Int) := wrap64_in (by omega)
  have hv2 : wrap64 ((S.size : Int) + (T.size : Int) - 1) = (S.size : Int) + (T.size : Int) - 1 := wrap64_in (by omega)
  have hz2 : (9223372036854775807 < S.size + T.size) = False := eq_false (by omega)
  have o1 : oneF 23 3 0 S = some (2, (S.size : Int), ⟨#[]⟩, 0) := by unfold oneF; rw [if_pos (by omega)]; rfl
  obtain ⟨v1, v2, v3, v4, ev⟩ : ∃ v1 v2 v3 v4, arithT op (x, true) (y, true) = (v1, v2, v3, v4) := ⟨_, _, _, _, rfl⟩
  cases a
  · have e : arithT op (x, false) (y, b) = no 18 := by unfold arithT; rw [if_neg (fun h => by cases h.1)]
    rw [e] at d1
    cases so
    · have e3 : joinT (S, false) (T, t) ((S.size : Int) + (T.size : Int)) = no 18 := by unfold joinT; rw [if_neg (fun h => by cases h.1)]
      have e4 : joinT (S, false) (T, t) ((S.size : Int) + (T.size : Int) - 1) = no 18 := by unfold joinT; rw [if_neg (fun h => by cases h.1)]
      rw [e3] at d3
      rw [e4] at d4
      exact nu23 m op k0 n0 s0 k1 n1 s1 x y b t S T _ _ _ _ hg HOP.out hx hy d1 d2 hs ht d3 d4 o1 hw1 hw2 hv1 hv2 hz2 w hT
    · cases t
      · have e3 : joinT (S, true) (T, false) ((S.size : Int) + (T.size : Int)) = no 18 := by unfold joinT; rw [if_neg (fun h => by cases h.2)]
        have e4 : joinT (S, true) (T, false) ((S.size : Int) + (T.size : Int) - 1) = no 18 := by unfold joinT; rw [if_neg (fun h => by cases h.2)]
        rw [e3] at d3
        rw [e4] at d4
        exact nu24 m op k0 n0 s0 k1 n1 s1 x y b S T _ _ _ _ hg HOP.out hx hy d1 d2 hs ht d3 d4 o1 hw1 hw2 hv1 hv2 hz2 w hT
      · rw [joinA] at d3
        by_cases hz : (S.size : Int) + (T.size : Int) = 0
        · obtain rfl : S = ⟨#[]⟩ := size0 S (by omega)
          obtain rfl : T = ⟨#[]⟩ := size0 T (by omega)
          have e3 : (doF 11 k0 n0 s0 k1 n1 s1 0) = some (3, 0, ⟨#[]⟩, 0) := d3
          have e4 : (doF 11 k0 n0 s0 k1 n1 s1 (-1)) = some (3, 0, ⟨#[]⟩, 0) := d4
          clear d3 d4
          have d3 := e3
          have d4 := e4
          exact nu21 m op k0 n0 s0 k1 n1 s1 x y b _ _ _ _ hg HOP.out hx hy d1 d2 hs ht d3 d4 o1 nilnil (by decide) w hT
        · rw [joinB S T hz] at d4
          exact nu22 m op k0 n0 s0 k1 n1 s1 x y b S T _ _ _ _ hg HOP.out hx hy d1 d2 hs ht d3 d4 o1 hw1 hw2 hv1 hv2 hz2 (eq_false hz) (by simpa using hz) w hT
  · cases b
    · have e : arithT op (x, true) (y, false) = no 18 := by unfold arithT; rw [if_neg (fun h => by cases h.2)]
      rw [e] at d1
      cases so
      · have e3 : joinT (S, false) (T, t) ((S.size : Int) + (T.size : Int)) = no 18 := by unfold joinT; rw [if_neg (fun h => by cases h.1)]
        have e4 : joinT (S, false) (T, t) ((S.size : Int) + (T.size : Int) - 1) = no 18 := by unfold joinT; rw [if_neg (fun h => by cases h.1)]
        rw [e3] at d3
        rw [e4] at d4
        exact nu33 m op k0 n0 s0 k1 n1 s1 x y t S T _ _ _ _ hg HOP.out hx hy d1 d2 hs ht d3 d4 o1 hw1 hw2 hv1 hv2 hz2 w hT
      · cases t
        · have e3 : joinT (S, true) (T, false) ((S.size : Int) + (T.size : Int)) = no 18 := by unfold joinT; rw [if_neg (fun h => by cases h.2)]
          have e4 : joinT (S, true) (T, false) ((S.size : Int) + (T.size : Int) - 1) = no 18 := by unfold joinT; rw [if_neg (fun h => by cases h.2)]
          rw [e3] at d3
          rw [e4] at d4
          exact nu34 m op k0 n0 s0 k1 n1 s1 x y S T _ _ _ _ hg HOP.out hx hy d1 d2 hs ht d3 d4 o1 hw1 hw2 hv1 hv2 hz2 w hT
        · rw [joinA] at d3
          by_cases hz : (S.size : Int) + (T.size : Int) = 0
          · obtain rfl : S = ⟨#[]⟩ := size0 S (by omega)
            obtain rfl : T = ⟨#[]⟩ := size0 T (by omega)
            have e3 : (doF 11 k0 n0 s0 k1 n1 s1 0) = some (3, 0, ⟨#[]⟩, 0) := d3
            have e4 : (doF 11 k0 n0 s0 k1 n1 s1 (-1)) = some (3, 0, ⟨#[]⟩, 0) := d4
            clear d3 d4
            have d3 := e3
            have d4 := e4
            exact nu31 m op k0 n0 s0 k1 n1 s1 x y _ _ _ _ hg HOP.out hx hy d1 d2 hs ht d3 d4 o1 nilnil (by decide) w hT
          · rw [joinB S T hz] at d4
            exact nu32 m op k0 n0 s0 k1 n1 s1 x y S T _ _ _ _ hg HOP.out hx hy d1 d2 hs ht d3 d4 o1 hw1 hw2 hv1 hv2 hz2 (eq_false hz) (by simpa using hz) w hT
    · rw [ev] at d1 d2
      cases so
      · have e3 : joinT (S, false) (T, t) ((S.size : Int) + (T.size : Int)) = no 18 := by unfold joinT; rw [if_neg (fun h => by cases h.1)]
        have e4 : joinT (S, false) (T, t) ((S.size : Int) + (T.size : Int) - 1) = no 18 := by unfold joinT; rw [if_neg (fun h => by cases h.1)]
        rw [e3] at d3
        rw [e4] at d4
        exact nu13 m op k0 n0 s0 k1 n1 s1 x y t S T _ _ _ _ hg HOP.out hx hy d1 d2 hs ht d3 d4 o1 hw1 hw2 hv1 hv2 hz2 w hT
      · cases t
        · have e3 : joinT (S, true) (T, false) ((S.size : Int) + (T.size : Int)) = no 18 := by unfold joinT; rw [if_neg (fun h => by cases h.2)]
          have e4 : joinT (S, true) (T, false) ((S.size : Int) + (T.size : Int) - 1) = no 18 := by unfold joinT; rw [if_neg (fun h => by cases h.2)]
          rw [e3] at d3
          rw [e4] at d4
          exact nu14 m op k0 n0 s0 k1 n1 s1 x y S T _ _ _ _ hg HOP.out hx hy d1 d2 hs ht d3 d4 o1 hw1 hw2 hv1 hv2 hz2 w hT
        · rw [joinA] at d3
          by_cases hz : (S.size : Int) + (T.size : Int) = 0
          · obtain rfl : S = ⟨#[]⟩ := size0 S (by omega)
            obtain rfl : T = ⟨#[]⟩ := size0 T (by omega)
            have e3 : (doF 11 k0 n0 s0 k1 n1 s1 0) = some (3, 0, ⟨#[]⟩, 0) := d3
            have e4 : (doF 11 k0 n0 s0 k1 n1 s1 (-1)) = some (3, 0, ⟨#[]⟩, 0) := d4
            clear d3 d4
            have d3 := e3
            have d4 := e4
            exact nu11 m op k0 n0 s0 k1 n1 s1 x y _ _ _ _ hg HOP.out hx hy d1 d2 hs ht d3 d4 o1 nilnil (by decide) w hT
          · rw [joinB S T hz] at d4
            exact nu12 m op k0 n0 s0 k1 n1 s1 x y S T _ _ _ _ hg HOP.out hx hy d1 d2 hs ht d3 d4 o1 hw1 hw2 hv1 hv2 hz2 (eq_false hz) (by simpa using hz) w hT
end Go.Proofs.YtpgpmldaggpciaaDoor.GW
