/- The calls of package value, by hand: small contracts. -/
import Derived.Test.YtpgpmldaggpciaaDoorGivenA
import Derived.Test.YtpgpmldaggpciaaDoorHK
import Derived.OrdersHeld
import Derived.Deep.QuietTactic
import Derived.BigQuiet
set_option linter.unusedVariables false
set_option linter.unusedSimpArgs false
namespace Go.Proofs.YtpgpmldaggpciaaDoor.Val
open Go.RowKit Go.Proofs.YtpgpmldaggpciaaDoorW.PrintWords Go.Proofs.YtpgpmldaggpciaaDoorW.PrintLast Go.Proofs.YtpgpmldaggpciaaDoor.Maths Go.Proofs.YtpgpmldaggpciaaDoor.TabW Go.Proofs.YtpgpmldaggpciaaDoor.HK
def ownK (k : Int) : Int := if 0 ≤ k ∧ k ≤ 7 then k else 0
def ownN (k n : Int) : Int := if k = 1 then (if n = 0 then 0 else 1) else if k = 2 ∨ 4 ≤ k ∧ k ≤ 7 then n else 0
def ownS (k : Int) (s : ByteArray) : ByteArray := if k = 3 then s else ⟨#[]⟩
def truthB (k n : Int) : Bool := decide (1 ≤ k ∧ k ≤ 7 ∧ (k = 1 → n ≠ 0))
def lessB (k1 n1 : Int) (s1 : ByteArray) (k2 n2 : Int) (s2 : ByteArray) : Bool × Bool :=
  if k1 = k2 then (if k1 = 2 then (decide (n1 < n2), true) else if k1 = 3 then (Op.bytesLess s1.toList s2.toList, true) else (false, false)) else (false, false)
def rawB (k1 n1 : Int) (s1 : ByteArray) (k2 n2 : Int) (s2 : ByteArray) : Bool :=
  decide (0 ≤ k1 ∧ k1 ≤ 7 ∧ k1 = k2 ∧ ownN k1 n1 = ownN k2 n2 ∧ ownS k1 s1 = ownS k2 s2)
theorem toList_inj {a b : ByteArray} : a.toList = b.toList ↔ a = b := by
  constructor
  · intro h
    rw [ByteArray.toList_eq, ByteArray.toList_eq] at h
    exact WideShapes.bytes_inj h
  · rintro rfl; rfl
theorem bel1 {w W : World} (h : Below w.heap.size w W) (o : Obj) : Below w.heap.size w (W.alloc o) := h.alloc h.size o
theorem bel2 (w : World) (o1 o2 : Obj) : Below w.heap.size w ((w.alloc o1).alloc o2) := bel1 (bel1 (Below.refl _ _) _) _
theorem hInt (n : Int) (w : World) : Calls Tryd.prog 53 #[.int .i64 n] w fun e w' => e = .returned (.agg #[.int .i64 2, .int .i64 n, .string ⟨#[]⟩]) ∧ Below w.heap.size w w' := by
  go_enter Tryd.func53, Tryd.ntmps53
  go_wp2
  refine bodyPost_ret (results_cell_row rfl _ _ w.heap.size 32 #[.int .i64 2, .int .i64 n, .string ⟨#[]⟩] (0, 0) _ rfl (Blk.new w [.int .i64 2, .int .i64 n, .string ⟨#[]⟩] _) Tryd.underlying32 rfl (by kernel_rfl)) rfl ⟨rfl, bel1 (Below.refl _ _) _⟩
theorem hStr (s : ByteArray) (w : World) : Calls Tryd.prog 55 #[.string s] w fun e w' => e = .returned (.agg #[.int .i64 3, .int .i64 0, .string s]) ∧ Below w.heap.size w w' := by
  go_enter Tryd.func55, Tryd.ntmps55
  go_wp2
  refine bodyPost_ret (results_cell_row rfl _ _ w.heap.size 32 #[.int .i64 3, .int .i64 0, .string s] (0, 0) _ rfl (Blk.new w [.int .i64 3, .int .i64 0, .string s] _) Tryd.underlying32 rfl (by kernel_rfl)) rfl ⟨rfl, bel1 (Below.refl _ _) _⟩
theorem hBool (b : Bool) (w : World) : Calls Tryd.prog 49 #[.bool b] w fun e w' => e = .returned (.agg #[.int .i64 1, .int .i64 (if b then 1 else 0), .string ⟨#[]⟩]) ∧ Below w.heap.size w w' := by
  cases b
  · go_enter Tryd.func49, Tryd.ntmps49
    go_wp2
    refine bodyPost_ret (results_cell_row rfl _ _ w.heap.size 32 #[.int .i64 1, .int .i64 0, .string ⟨#[]⟩] (0, 0) _ rfl (Blk.new w [.int .i64 1, .int .i64 0, .string ⟨#[]⟩] _) Tryd.underlying32 rfl (by kernel_rfl)) rfl ⟨rfl, bel1 (Below.refl _ _) _⟩
  · go_enter Tryd.func49, Tryd.ntmps49
    go_wp2
    refine bodyPost_ret (results_cell_row rfl _ _ w.heap.size 32 #[.int .i64 1, .int .i64 1, .string ⟨#[]⟩] (0, 0) _ rfl (Blk.new w [.int .i64 1, .int .i64 1, .string ⟨#[]⟩] _) Tryd.underlying32 rfl (by kernel_rfl)) rfl ⟨rfl, bel1 (Below.refl _ _) _⟩
theorem hStrange (k n : Int) (s : ByteArray) (w : World) : Calls Tryd.prog 73 #[.agg #[.int .i64 k, .int .i64 n, .string s]] w fun e w' => e = .returned (.bool (decide (k < 0 ∨ k > 7))) ∧ Below w.heap.size w w' := by
  by_cases h0 : k < 0
  · have hb : decide (k < 0) = true := decide_eq_true h0
    have e : decide (k < 0 ∨ k > 7) = true := decide_eq_true (Or.inl h0)
    rw [e]
    clear h0 e
    go_enter Tryd.func73, Tryd.ntmps73
    go_wp2
    go_ret
    exact ⟨rfl, bel1 (Below.refl _ _) _⟩
  · have hb : decide (k < 0) = false := decide_eq_false h0
    have e : decide (k < 0 ∨ k > 7) = decide (7 < k) := by simp [h0]
    rw [e]
    clear h0 e
    go_enter Tryd.func73, Tryd.ntmps73
    go_wp2
    go_ret
    exact ⟨rfl, bel1 (Below.refl _ _) _⟩
theorem hLess (k n : Int) (s : ByteArray) (k2 n2 : Int) (s2 : ByteArray) (w : World) : Calls Tryd.prog 71 #[.agg #[.int .i64 k, .int .i64 n, .string s], .agg #[.int .i64 k2, .int .i64 n2, .string s2]] w fun e w' => e = .returned (.tuple #[.bool (lessB k n s k2 n2 s2).1, .bool (lessB k n s k2 n2 s2).2]) ∧ Below w.heap.size w w' := by
  unfold lessB
  by_cases h : k = k2
  · subst h
    have hb : (k != k) = false := by simp
    rw [if_pos rfl]
    by_cases h2 : k = 2
    · subst h2
      rw [if_pos rfl]
      clear hb
      go_enter Tryd.func71, Tryd.ntmps71
      go_wp2
      go_ret2
      exact ⟨rfl, bel2 _ _ _⟩
    · rw [if_neg h2]
      have e2 : (k == 2) = false := by simpa using h2
      by_cases h3 : k = 3
      · subst h3
        rw [if_pos rfl]
        clear hb e2 h2
        go_enter Tryd.func71, Tryd.ntmps71
        go_wp2
        go_ret2
        exact ⟨rfl, bel2 _ _ _⟩
      · rw [if_neg h3]
        have e3 : (k == 3) = false := by simpa using h3
        clear h2 h3
        go_enter Tryd.func71, Tryd.ntmps71
        go_wp2
        go_ret2
        exact ⟨rfl, bel2 _ _ _⟩
  · have hb : (k != k2) = true := by simpa using h
    rw [if_neg h]
    clear h
    go_enter Tryd.func71, Tryd.ntmps71
    go_wp2
    go_ret2
    exact ⟨rfl, bel2 _ _ _⟩
theorem hTruth (k n : Int) (s : ByteArray) (w : World) : Calls Tryd.prog 47 #[.agg #[.int .i64 k, .int .i64 n, .string s]] w fun e w' => e = .returned (.bool (truthB k n)) ∧ Below w.heap.size w w' := by
  have HS := Lib.hid (fun W => hStrange k n s W)
  have HB := Lib.hid (bel1 (Below.refl w.heap.size w) (.cells #[.int .i64 k, .int .i64 n, .string s] 32))
  by_cases h0 : k = 0
  · subst h0
    have e : truthB 0 n = false := by simp [truthB]
    rw [e]
    clear e
    go_enter Tryd.func47, Tryd.ntmps47
    go_wp2
    go_ret
    exact ⟨rfl, HB.out⟩
  · by_cases h1 : k = 1
    · subst h1
      have e : truthB 1 n = (n != 0) := by by_cases h : n = 0 <;> simp [truthB, h]
      rw [e]
      clear e h0
      go_enter Tryd.func47, Tryd.ntmps47
      go_wp2
      go_ret
      exact ⟨rfl, HB.out⟩
    · have e0 : (k == 0) = false := by simpa using h0
      have e1 : (k == 1) = false := by simpa using h1
      have e : truthB k n = !decide (k < 0 ∨ k > 7) := by rw [Bool.eq_iff_iff]; simp [truthB]; omega
      rw [e]
      clear h0 h1 e
      generalize decide (k < 0 ∨ k > 7) = b at *
      go_enter Tryd.func47, Tryd.ntmps47
      go_wp2_with (go_at_call 73; (with_reducible refine (HS.out _).mono ?_); rintro e w1 ⟨rfl, hb⟩; have HB1 := Lib.hid (HB.out.trans (hb.mono HB.out.size)); clear hb)
      go_ret
      exact ⟨rfl, HB1.out⟩
end Go.Proofs.YtpgpmldaggpciaaDoor.Val
