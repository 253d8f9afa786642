/- The library's table and FormatInt's contract; given calls for the print. -/
import Derived.Test.YtbmenmcjlidadaaDoorShelf
import Derived.WalkKit
import Derived.Lib.Hide
import Derived.Lib.LaidTab
import Derived.Lib.AppendIntMem
set_option linter.unusedVariables false
set_option linter.unusedSimpArgs false
namespace Go.Proofs.YtbmenmcjlidadaaDoor.TabW
open Go.RowKit
/-- the library's table lies -/
def Tab (w : World) : Prop := Lib.TabBelow Tryd.prog w.heap.size w "internal/strconv.uint64pow10" .u64 Lib.pow10Tab
theorem Tab.here {w : World} (h : Tab w) : Lib.TabIs Tryd.prog w "internal/strconv.uint64pow10" .u64 Lib.pow10Tab := Lib.TabBelow.here h
theorem Tab.on {w w' : World} (h : Tab w) (hb : Below w.heap.size w w') : Tab w' := Lib.tabBelow_of_tabIs (Lib.TabBelow.on h hb).here
theorem Tab.of {w : World} (h : Lib.TabIs Tryd.prog w "internal/strconv.uint64pow10" .u64 Lib.pow10Tab) : Tab w := Lib.tabBelow_of_tabIs h
theorem bclose (t : Bool) (l : List UInt8) : (t == !l.isEmpty) = !t != (l != []) := by cases l <;> cases t <;> rfl
theorem beq_nil (l : List UInt8) : (l == ([] : List UInt8)) = l.isEmpty := by cases l <;> rfl
def itoaS (n : Int) : ByteArray := ⟨(Lib.itoa n).toArray⟩
def fmtF (n b : Int) : Option ByteArray := if b = 10 ∧ -9223372036854775808 ≤ n ∧ n ≤ 9223372036854775807 then some (itoaS n) else none
theorem below_grow (w : World) (k : Nat) (os : Array Obj) : Below w.heap.size w (Sort.grow (w.drewN k) os) :=
  ⟨rfl, rfl, rfl, by simp [Sort.grow], fun i hi => by
    show (w.heap ++ os)[i]? = _
    rw [Array.getElem?_append_left hi]⟩
theorem fmt_calls (n b : Int) (r : ByteArray) (w : World) (hT : Tab w) (h : fmtF n b = some r) :
    Calls Tryd.prog 30 #[.int .i64 n, .int .i64 b] w fun e w' => e = .returned (.string r) ∧ Below w.heap.size w w' := by
  unfold fmtF at h
  by_cases hn : b = 10 ∧ -9223372036854775808 ≤ n ∧ n ≤ 9223372036854775807
  · rw [if_pos hn] at h
    obtain rfl := Option.some.inj h
    obtain rfl := hn.1
    refine (Tryd.strconv_FormatInt_10 n hn.2.1 hn.2.2 w hT.here).mono ?_
    rintro e w' ⟨he, k, os, rfl⟩
    exact ⟨he, below_grow w k os⟩
  · rw [if_neg hn] at h; cases h
def typeS (k : Int) : ByteArray := if k = 0 then ⟨#[110, 105, 108]⟩ else if k = 1 then ⟨#[98, 111, 111, 108, 101, 97, 110]⟩ else if k = 2 then ⟨#[110, 117, 109, 98, 101, 114]⟩ else if k = 3 then ⟨#[115, 116, 114, 105, 110, 103]⟩ else if k = 4 then ⟨#[116, 97, 98, 108, 101]⟩ else if k = 5 then ⟨#[102, 117, 110, 99, 116, 105, 111, 110]⟩ else if k = 6 then ⟨#[102, 117, 110, 99, 116, 105, 111, 110]⟩ else if k = 7 then ⟨#[116, 104, 114, 101, 97, 100]⟩ else ⟨#[]⟩
set_option maxHeartbeats 2000000 in
theorem rtype_calls (k n : Int) (s : ByteArray) (r : ByteArray) (w : World) (h : some (typeS k) = some r) :
    Calls Tryd.prog 15 #[.agg #[.int .i64 k, .int .i64 n, .string s]] w fun e w' => e = .returned (.string r) ∧ Below w.heap.size w w' := by
  obtain rfl := Option.some.inj h
  clear h
  have fin : ∀ o1 o2, Below w.heap.size w ((w.alloc o1).alloc o2) := fun o1 o2 => ((Below.refl _ _).alloc (Nat.le_refl _) _).alloc (by simp) _
  by_cases h : k < 0 ∨ k > 7
  · have e : typeS k = ⟨#[]⟩ := by unfold typeS; rw [if_neg (by omega), if_neg (by omega), if_neg (by omega), if_neg (by omega), if_neg (by omega), if_neg (by omega), if_neg (by omega), if_neg (by omega)]
    rw [e]; clear e
    by_cases h0 : k < 0
    · have hb : decide (k < 0) = true := decide_eq_true h0
      clear h h0
      go_enter Tryd.func15, Tryd.ntmps15
      go_wp2
      go_ret
      exact ⟨rfl, fin _ _⟩
    · have hb : decide (k < 0) = false := decide_eq_false h0
      have hc : decide (7 < k) = true := decide_eq_true (by omega)
      clear h h0
      go_enter Tryd.func15, Tryd.ntmps15
      go_wp2
      go_ret
      exact ⟨rfl, fin _ _⟩
  · obtain rfl | rfl | rfl | rfl | rfl | rfl | rfl | rfl : k = 0 ∨ k = 1 ∨ k = 2 ∨ k = 3 ∨ k = 4 ∨ k = 5 ∨ k = 6 ∨ k = 7 := by omega
    · clear h
      have ix : ∀ w : World, (Instr.index 44 (.agg #[.string ⟨#[110, 105, 108]⟩, .string ⟨#[98, 111, 111, 108, 101, 97, 110]⟩, .string ⟨#[110, 117, 109, 98, 101, 114]⟩, .string ⟨#[115, 116, 114, 105, 110, 103]⟩, .string ⟨#[116, 97, 98, 108, 101]⟩, .string ⟨#[102, 117, 110, 99, 116, 105, 111, 110]⟩, .string ⟨#[102, 117, 110, 99, 116, 105, 111, 110]⟩, .string ⟨#[116, 104, 114, 101, 97, 100]⟩]) (.int .i64 0)).run Tryd.prog w = .ok (.string ⟨#[110, 105, 108]⟩) w := fun _ => by kernel_rfl
      go_enter Tryd.func15, Tryd.ntmps15
      go_wp2
      go_ret
      exact ⟨rfl, fin _ _⟩
    · clear h
      have ix : ∀ w : World, (Instr.index 44 (.agg #[.string ⟨#[110, 105, 108]⟩, .string ⟨#[98, 111, 111, 108, 101, 97, 110]⟩, .string ⟨#[110, 117, 109, 98, 101, 114]⟩, .string ⟨#[115, 116, 114, 105, 110, 103]⟩, .string ⟨#[116, 97, 98, 108, 101]⟩, .string ⟨#[102, 117, 110, 99, 116, 105, 111, 110]⟩, .string ⟨#[102, 117, 110, 99, 116, 105, 111, 110]⟩, .string ⟨#[116, 104, 114, 101, 97, 100]⟩]) (.int .i64 1)).run Tryd.prog w = .ok (.string ⟨#[98, 111, 111, 108, 101, 97, 110]⟩) w := fun _ => by kernel_rfl
      go_enter Tryd.func15, Tryd.ntmps15
      go_wp2
      go_ret
      exact ⟨rfl, fin _ _⟩
    · clear h
      have ix : ∀ w : World, (Instr.index 44 (.agg #[.string ⟨#[110, 105, 108]⟩, .string ⟨#[98, 111, 111, 108, 101, 97, 110]⟩, .string ⟨#[110, 117, 109, 98, 101, 114]⟩, .string ⟨#[115, 116, 114, 105, 110, 103]⟩, .string ⟨#[116, 97, 98, 108, 101]⟩, .string ⟨#[102, 117, 110, 99, 116, 105, 111, 110]⟩, .string ⟨#[102, 117, 110, 99, 116, 105, 111, 110]⟩, .string ⟨#[116, 104, 114, 101, 97, 100]⟩]) (.int .i64 2)).run Tryd.prog w = .ok (.string ⟨#[110, 117, 109, 98, 101, 114]⟩) w := fun _ => by kernel_rfl
      go_enter Tryd.func15, Tryd.ntmps15
      go_wp2
      go_ret
      exact ⟨rfl, fin _ _⟩
    · clear h
      have ix : ∀ w : World, (Instr.index 44 (.agg #[.string ⟨#[110, 105, 108]⟩, .string ⟨#[98, 111, 111, 108, 101, 97, 110]⟩, .string ⟨#[110, 117, 109, 98, 101, 114]⟩, .string ⟨#[115, 116, 114, 105, 110, 103]⟩, .string ⟨#[116, 97, 98, 108, 101]⟩, .string ⟨#[102, 117, 110, 99, 116, 105, 111, 110]⟩, .string ⟨#[102, 117, 110, 99, 116, 105, 111, 110]⟩, .string ⟨#[116, 104, 114, 101, 97, 100]⟩]) (.int .i64 3)).run Tryd.prog w = .ok (.string ⟨#[115, 116, 114, 105, 110, 103]⟩) w := fun _ => by kernel_rfl
      go_enter Tryd.func15, Tryd.ntmps15
      go_wp2
      go_ret
      exact ⟨rfl, fin _ _⟩
    · clear h
      have ix : ∀ w : World, (Instr.index 44 (.agg #[.string ⟨#[110, 105, 108]⟩, .string ⟨#[98, 111, 111, 108, 101, 97, 110]⟩, .string ⟨#[110, 117, 109, 98, 101, 114]⟩, .string ⟨#[115, 116, 114, 105, 110, 103]⟩, .string ⟨#[116, 97, 98, 108, 101]⟩, .string ⟨#[102, 117, 110, 99, 116, 105, 111, 110]⟩, .string ⟨#[102, 117, 110, 99, 116, 105, 111, 110]⟩, .string ⟨#[116, 104, 114, 101, 97, 100]⟩]) (.int .i64 4)).run Tryd.prog w = .ok (.string ⟨#[116, 97, 98, 108, 101]⟩) w := fun _ => by kernel_rfl
      go_enter Tryd.func15, Tryd.ntmps15
      go_wp2
      go_ret
      exact ⟨rfl, fin _ _⟩
    · clear h
      have ix : ∀ w : World, (Instr.index 44 (.agg #[.string ⟨#[110, 105, 108]⟩, .string ⟨#[98, 111, 111, 108, 101, 97, 110]⟩, .string ⟨#[110, 117, 109, 98, 101, 114]⟩, .string ⟨#[115, 116, 114, 105, 110, 103]⟩, .string ⟨#[116, 97, 98, 108, 101]⟩, .string ⟨#[102, 117, 110, 99, 116, 105, 111, 110]⟩, .string ⟨#[102, 117, 110, 99, 116, 105, 111, 110]⟩, .string ⟨#[116, 104, 114, 101, 97, 100]⟩]) (.int .i64 5)).run Tryd.prog w = .ok (.string ⟨#[102, 117, 110, 99, 116, 105, 111, 110]⟩) w := fun _ => by kernel_rfl
      go_enter Tryd.func15, Tryd.ntmps15
      go_wp2
      go_ret
      exact ⟨rfl, fin _ _⟩
    · clear h
      have ix : ∀ w : World, (Instr.index 44 (.agg #[.string ⟨#[110, 105, 108]⟩, .string ⟨#[98, 111, 111, 108, 101, 97, 110]⟩, .string ⟨#[110, 117, 109, 98, 101, 114]⟩, .string ⟨#[115, 116, 114, 105, 110, 103]⟩, .string ⟨#[116, 97, 98, 108, 101]⟩, .string ⟨#[102, 117, 110, 99, 116, 105, 111, 110]⟩, .string ⟨#[102, 117, 110, 99, 116, 105, 111, 110]⟩, .string ⟨#[116, 104, 114, 101, 97, 100]⟩]) (.int .i64 6)).run Tryd.prog w = .ok (.string ⟨#[102, 117, 110, 99, 116, 105, 111, 110]⟩) w := fun _ => by kernel_rfl
      go_enter Tryd.func15, Tryd.ntmps15
      go_wp2
      go_ret
      exact ⟨rfl, fin _ _⟩
    · clear h
      have ix : ∀ w : World, (Instr.index 44 (.agg #[.string ⟨#[110, 105, 108]⟩, .string ⟨#[98, 111, 111, 108, 101, 97, 110]⟩, .string ⟨#[110, 117, 109, 98, 101, 114]⟩, .string ⟨#[115, 116, 114, 105, 110, 103]⟩, .string ⟨#[116, 97, 98, 108, 101]⟩, .string ⟨#[102, 117, 110, 99, 116, 105, 111, 110]⟩, .string ⟨#[102, 117, 110, 99, 116, 105, 111, 110]⟩, .string ⟨#[116, 104, 114, 101, 97, 100]⟩]) (.int .i64 7)).run Tryd.prog w = .ok (.string ⟨#[116, 104, 114, 101, 97, 100]⟩) w := fun _ => by kernel_rfl
      go_enter Tryd.func15, Tryd.ntmps15
      go_wp2
      go_ret
      exact ⟨rfl, fin _ _⟩
end Go.Proofs.YtbmenmcjlidadaaDoor.TabW
