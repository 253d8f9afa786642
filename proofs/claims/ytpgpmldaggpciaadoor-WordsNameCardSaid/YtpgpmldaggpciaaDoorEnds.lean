/- Does a text end so, does it have another one within: the calls, by hand. -/
import Derived.Test.YtpgpmldaggpciaaDoorGivenA
import Derived.Test.YtpgpmldaggpciaaDoorHK
import Derived.OrdersHeld
import Derived.Deep.QuietTactic
import Derived.BigQuiet
set_option linter.unusedVariables false
set_option linter.unusedSimpArgs false
namespace Go.Proofs.YtpgpmldaggpciaaDoor.GW
open Go.RowKit Go.Proofs.YtpgpmldaggpciaaDoorW.PrintWords Go.Proofs.YtpgpmldaggpciaaDoorW.PrintLast Go.Proofs.YtpgpmldaggpciaaDoor.Maths Go.Proofs.YtpgpmldaggpciaaDoor.TabW Go.Proofs.YtpgpmldaggpciaaDoor.HK
set_option maxHeartbeats 2000000 in
theorem ends1 (s t : ByteArray) (w : World) (h : (t.size ≤ s.size) = False) : Calls Tryd.prog 33 #[.string s, .string t] w fun e w' => e = .returned (.bool false) ∧ Below w.heap.size w w' := by
  go_enter Tryd.func33, Tryd.ntmps33
  go_wp2
  go_ret
  exact ⟨rfl, Below.refl _ _⟩
set_option maxHeartbeats 2000000 in
theorem ends2 (s t : ByteArray) (w : World) (b : Bool) (h : decide ((t.size : Int) ≤ (s.size : Int)) = true) (hw : wrap64 ((s.size : Int) - (t.size : Int)) = (s.size : Int) - (t.size : Int)) (h0 : (0 : Int) ≤ (s.size : Int) - (t.size : Int)) (h1 : (s.size : Int) - (t.size : Int) ≤ (s.size : Int)) (hb : ((s.extract (s.size - t.size) s.size).toList == t.toList) = b) : Calls Tryd.prog 33 #[.string s, .string t] w fun e w' => e = .returned (.bool b) ∧ Below w.heap.size w w' := by
  go_enter Tryd.func33, Tryd.ntmps33
  go_wp2
  go_ret
  exact ⟨rfl, Below.refl _ _⟩
def endsB (s t : ByteArray) : Bool := decide ((t.size : Int) ≤ (s.size : Int)) && ((s.extract (s.size - t.size) s.size).toList == t.toList)
theorem hEnds (s t : ByteArray) (w : World) (hs : s.size ≤ 1000000) (ht : t.size ≤ 1000000) : Calls Tryd.prog 33 #[.string s, .string t] w fun e w' => e = .returned (.bool (endsB s t)) ∧ Below w.heap.size w w' := by
  unfold endsB
  by_cases h : (t.size : Int) ≤ (s.size : Int)
  · rw [decide_eq_true h, Bool.true_and]
    exact ends2 s t w _ (decide_eq_true h) (wrap64_in (by omega)) (by omega) (by omega) rfl
  · rw [decide_eq_false h, Bool.false_and]
    exact ends1 s t w (eq_false (by omega))
theorem ext_mid (p x q : ByteArray) : ((p ++ x ++ q).extract p.size (p.size + x.size)) = x := by
  apply ByteArray.ext
  apply Array.toList_inj.1
  have e1 : p.size = p.data.toList.length := by rw [Array.length_toList]; rfl
  have e2 : x.size = x.data.toList.length := by rw [Array.length_toList]; rfl
  rw [ByteArray.data_extract, ByteArray.data_append, ByteArray.data_append, Array.toList_extract, Array.toList_append, Array.toList_append, List.extract_eq_take_drop, e1, e2, List.append_assoc, List.drop_left, Nat.add_sub_cancel_left, List.take_left]
theorem endsB_app (p t : ByteArray) : endsB (p ++ t) t = true := by
  unfold endsB
  rw [Bool.and_eq_true, decide_eq_true_eq, beq_iff_eq]
  refine ⟨by rw [ByteArray.size_append]; omega, ?_⟩
  have h := ext_mid p t ⟨#[]⟩
  have e : p ++ t ++ (⟨#[]⟩ : ByteArray) = p ++ t := by apply ByteArray.ext; rw [ByteArray.data_append]; exact Array.append_empty
  rw [e] at h
  rw [ByteArray.size_append, show p.size + t.size - t.size = p.size by omega, h]
set_option maxHeartbeats 4000000 in
set_option maxRecDepth 20000 in
theorem hHas (c x p q : ByteArray) (w : World) (hc : c = p ++ x ++ q) (hs : c.size ≤ 1000000) (s t : ByteArray) (e1 : s = c) (e2 : t = x) : Calls Tryd.prog 34 #[.string s, .string t] w fun e w' => e = .returned (.bool true) ∧ Below w.heap.size w w' := by
  subst e1 e2
  have hz : s.size = p.size + t.size + q.size := by rw [hc, ByteArray.size_append, ByteArray.size_append]
  have HM : Hid (∀ i : Nat, i = p.size → (s.extract i (i + t.size)).toList = t.toList) := Lib.hid (by rintro i rfl; rw [hc, ext_mid])
  clear hc
  generalize p.size = n at *
  have HZ := Lib.hid hz
  clear hz
  go_enter Tryd.func34, Tryd.ntmps34
  go_wp2
  go_loop [5] (fun iv => ∃ j : Nat, j ≤ n ∧ iv = .int .i64 j) (fun iv => n + 1 - (intOf iv).toNat)
  case atStart => exact ⟨0, by omega, rfl⟩
  case round =>
    obtain ⟨j, hj, rfl⟩ := hrel
    have hz := HZ.out
    have k1 : (j : Int) + (t.size : Int) ≤ 9223372036854775807 := by omega
    have k2 : (j : Int) + 1 ≤ 9223372036854775807 := by omega
    have k3 : j + t.size ≤ s.size := by omega
    have k4 : (j : Int) + (t.size : Int) ≤ (s.size : Int) := by omega
    have k5 : (0 : Int) ≤ (j : Int) := Int.natCast_nonneg j
    have k6 : (0 : Int) ≤ (j : Int) + (t.size : Int) := by omega
    have hw : Hid (wrap64 ((j : Int) + (t.size : Int)) = (j : Int) + (t.size : Int)) := Lib.hid (wrap64_in ⟨Int.le_trans (by decide) k6, k1⟩)
    have hwj : Hid (wrap64 ((j : Int) + 1) = (j : Int) + 1) := Lib.hid (wrap64_in ⟨by omega, k2⟩)
    have hl : (j + t.size ≤ s.size) = True := eq_true k3
    have hl2 : ((j : Int) + (t.size : Int) ≤ (s.size : Int)) = True := eq_true k4
    clear k1 k2 k3 k4 k5 k6
    clear hz
    by_cases hq : (s.extract j (j + t.size)).toList = t.toList
    · have hqb : ((s.extract j (j + t.size)).toList == t.toList) = true := by rw [hq]; simp
      have hw := hw.out
      have hwj := hwj.out
      go_wp2
      go_ret
      exact ⟨rfl, Below.refl _ _⟩
    · have hlt : j < n := by
        rcases Nat.lt_or_ge j n with h | h
        · exact h
        · exact absurd (HM.out j (by omega)) hq
      have HL := Lib.hid hlt
      have hqb : ((s.extract j (j + t.size)).toList == t.toList) = false := by simpa using hq
      have hw := hw.out
      have hwj := hwj.out
      clear hlt
      go_wp2
      go_round
      case rel => exact ⟨j + 1, HL.out, by first | rfl | (rw [hwj]; rfl) | go_num⟩
      case measure => (rw [hwj]; clear hw hwj hl hl2 hqb hq; have := HL.out; simp only [intOf]; omega)
end Go.Proofs.YtpgpmldaggpciaaDoor.GW
