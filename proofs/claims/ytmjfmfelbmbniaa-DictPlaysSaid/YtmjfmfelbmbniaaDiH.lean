/- Layer 13: the hash of a key. -/
import Derived.Test.YtmjfmfelbmbniaaVa
namespace Go.Proofs.Ytmjfmfelbmbniaa
open Go.RowKit Go.Maps HK
set_option linter.unusedVariables false
set_option linter.unusedSimpArgs false
def hmul (a b : Int) : Int := IntKind.u64.wrap (bits .xor .u64 a b * 1099511628211)
def hash0 (k : Int) : Int := hmul 14695981039346656037 (IntKind.u64.wrap k)
def hstep (h : Int) (c : UInt8) : Int := hmul h (IntKind.u64.wrap (c.toNat : Nat))
def hashV (x : Val) : Int := if x.k = 3 then x.s.data.toList.foldl hstep (hash0 x.k) else bits .xor .u64 (hmul (hash0 x.k) (IntKind.u64.wrap x.n)) (hmul (hash0 x.k) (IntKind.u64.wrap x.n) / 536870912)
set_option maxHeartbeats 2000000 in
theorem hash_calls (x : Val) (hx : x.s.size ≤ maxLen) (w : World) : Calls Try.prog 148 #[x.v] w fun e w' => e = .returned (.int .u64 (hashV x)) ∧ Below w.heap.size w w' := by
  obtain ⟨k, n, s⟩ := x
  have hx' : s.size ≤ 9223372036854775807 := hx
  clear hx
  by_cases h3 : k = 3
  · subst h3
    have hV : hashV ⟨3, n, s⟩ = s.data.toList.foldl hstep (hash0 3) := rfl
    have HV := Lib.hid hV
    clear hV
    go_enter Try.func148, Try.ntmps148
    go_wp2_with fail
    go_loop [3, 28] (fun h i => ∃ j : Nat, j ≤ s.size ∧ i = .int .i64 j ∧ h = .int .u64 ((s.data.toList.take j).foldl hstep (hash0 3))) (fun _ i => s.size - (intOf i).toNat)
    case atStart => exact ⟨0, Nat.zero_le _, rfl, rfl⟩
    case round =>
      obtain ⟨j, hj, rfl, rfl⟩ := hrel
      by_cases hlt : j < s.size
      · have hj0 : (0 : Int) ≤ (j : Int) := by omega
        have hj1 : (j : Int) < (s.size : Int) := by omega
        have HS : Hid ((s.data.toList.take (j + 1)).foldl hstep (hash0 3) = hstep ((s.data.toList.take j).foldl hstep (hash0 3)) (s.data.toList[j]'(by simpa using hlt))) := Lib.hid (by
          rw [List.take_succ_eq_append_getElem (by simpa using hlt), List.foldl_append]; rfl)
        generalize (s.data.toList.take j).foldl hstep (hash0 3) = h0 at *
        go_wp2_with fail
        go_round
        case rel => exact ⟨j + 1, by omega, by go_num, by rw [HS.out]; rfl⟩
        case measure => simp [intOf]; omega
      · obtain rfl : j = s.size := by omega
        have HO : Hid (s.data.toList.take s.size = s.data.toList) := Lib.hid (List.take_of_length_le (by simp))
        go_wp2_with fail
        go_ret
        exact ⟨by rw [HV.out, HO.out]; rfl, by (repeat (first | exact Below.refl _ _ | (refine Below.alloc ?_ (by simp <;> omega) _) | (refine Below.setCell ?_ (by simp <;> omega) _)))⟩
  · have h3' : (k == 3) = false := by simp [h3]
    have hV : hashV ⟨k, n, s⟩ = bits .xor .u64 (hmul (hash0 k) (IntKind.u64.wrap n)) (hmul (hash0 k) (IntKind.u64.wrap n) / 536870912) := if_neg h3
    have HV := Lib.hid hV
    clear hV h3
    go_enter Try.func148, Try.ntmps148
    go_wp2_with fail
    go_ret
    exact ⟨by rw [HV.out]; rfl, by (repeat (first | exact Below.refl _ _ | (refine Below.alloc ?_ (by simp <;> omega) _) | (refine Below.setCell ?_ (by simp <;> omega) _)))⟩
end Go.Proofs.Ytmjfmfelbmbniaa
