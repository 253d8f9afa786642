/- The words of types: what the reference's Type answers. -/
import Derived.Test.YtpgpmldaggpciaaDoorNumeral
set_option linter.unusedVariables false
set_option linter.unusedSimpArgs false
namespace Go.Proofs.YtpgpmldaggpciaaDoor.TabW
open Go.RowKit
def typeS (k : Int) : ByteArray := if k = 0 then ⟨#[110, 105, 108]⟩ else if k = 1 then ⟨#[98, 111, 111, 108, 101, 97, 110]⟩ else if k = 2 then ⟨#[110, 117, 109, 98, 101, 114]⟩ else if k = 3 then ⟨#[115, 116, 114, 105, 110, 103]⟩ else if k = 4 then ⟨#[116, 97, 98, 108, 101]⟩ else if k = 5 then ⟨#[102, 117, 110, 99, 116, 105, 111, 110]⟩ else if k = 6 then ⟨#[102, 117, 110, 99, 116, 105, 111, 110]⟩ else if k = 7 then ⟨#[116, 104, 114, 101, 97, 100]⟩ else ⟨#[]⟩
set_option maxHeartbeats 2000000 in
theorem rtype_calls (k n : Int) (s : ByteArray) (r : ByteArray) (w : World) (h : some (typeS k) = some r) :
    Calls Tryd.prog 64 #[.agg #[.int .i64 k, .int .i64 n, .string s]] w fun e w' => e = .returned (.string r) ∧ Below w.heap.size w w' := by
  obtain rfl := Option.some.inj h
  clear h
  have fin : ∀ o1 o2, Below w.heap.size w ((w.alloc o1).alloc o2) := fun o1 o2 => ((Below.refl _ _).alloc (Nat.le_refl _) _).alloc (by simp) _
  by_cases h : k < 0 ∨ k > 7
  · have e : typeS k = ⟨#[]⟩ := by unfold typeS; rw [if_neg (by omega), if_neg (by omega), if_neg (by omega), if_neg (by omega), if_neg (by omega), if_neg (by omega), if_neg (by omega), if_neg (by omega)]
    rw [e]; clear e
    by_cases h0 : k < 0
    · have hb : decide (k < 0) = true := decide_eq_true h0
      clear h h0
      go_enter Tryd.func64, Tryd.ntmps64
      go_wp2
      go_ret
      exact ⟨rfl, fin _ _⟩
    · have hb : decide (k < 0) = false := decide_eq_false h0
      have hc : decide (7 < k) = true := decide_eq_true (by omega)
      clear h h0
      go_enter Tryd.func64, Tryd.ntmps64
      go_wp2
      go_ret
      exact ⟨rfl, fin _ _⟩
  · obtain rfl | rfl | rfl | rfl | rfl | rfl | rfl | rfl : k = 0 ∨ k = 1 ∨ k = 2 ∨ k = 3 ∨ k = 4 ∨ k = 5 ∨ k = 6 ∨ k = 7 := by omega
    · clear h
      have ix : ∀ w : World, (Instr.index 90 (.agg #[.string ⟨#[110, 105, 108]⟩, .string ⟨#[98, 111, 111, 108, 101, 97, 110]⟩, .string ⟨#[110, 117, 109, 98, 101, 114]⟩, .string ⟨#[115, 116, 114, 105, 110, 103]⟩, .string ⟨#[116, 97, 98, 108, 101]⟩, .string ⟨#[102, 117, 110, 99, 116, 105, 111, 110]⟩, .string ⟨#[102, 117, 110, 99, 116, 105, 111, 110]⟩, .string ⟨#[116, 104, 114, 101, 97, 100]⟩]) (.int .i64 0)).run Tryd.prog w = .ok (.string ⟨#[110, 105, 108]⟩) w := fun _ => by kernel_rfl
      go_enter Tryd.func64, Tryd.ntmps64
      go_wp2
      go_ret
      exact ⟨rfl, fin _ _⟩
    · clear h
      have ix : ∀ w : World, (Instr.index 90 (.agg #[.string ⟨#[110, 105, 108]⟩, .string ⟨#[98, 111, 111, 108, 101, 97, 110]⟩, .string ⟨#[110, 117, 109, 98, 101, 114]⟩, .string ⟨#[115, 116, 114, 105, 110, 103]⟩, .string ⟨#[116, 97, 98, 108, 101]⟩, .string ⟨#[102, 117, 110, 99, 116, 105, 111, 110]⟩, .string ⟨#[102, 117, 110, 99, 116, 105, 111, 110]⟩, .string ⟨#[116, 104, 114, 101, 97, 100]⟩]) (.int .i64 1)).run Tryd.prog w = .ok (.string ⟨#[98, 111, 111, 108, 101, 97, 110]⟩) w := fun _ => by kernel_rfl
      go_enter Tryd.func64, Tryd.ntmps64
      go_wp2
      go_ret
      exact ⟨rfl, fin _ _⟩
    · clear h
      have ix : ∀ w : World, (Instr.index 90 (.agg #[.string ⟨#[110, 105, 108]⟩, .string ⟨#[98, 111, 111, 108, 101, 97, 110]⟩, .string ⟨#[110, 117, 109, 98, 101, 114]⟩, .string ⟨#[115, 116, 114, 105, 110, 103]⟩, .string ⟨#[116, 97, 98, 108, 101]⟩, .string ⟨#[102, 117, 110, 99, 116, 105, 111, 110]⟩, .string ⟨#[102, 117, 110, 99, 116, 105, 111, 110]⟩, .string ⟨#[116, 104, 114, 101, 97, 100]⟩]) (.int .i64 2)).run Tryd.prog w = .ok (.string ⟨#[110, 117, 109, 98, 101, 114]⟩) w := fun _ => by kernel_rfl
      go_enter Tryd.func64, Tryd.ntmps64
      go_wp2
      go_ret
      exact ⟨rfl, fin _ _⟩
    · clear h
      have ix : ∀ w : World, (Instr.index 90 (.agg #[.string ⟨#[110, 105, 108]⟩, .string ⟨#[98, 111, 111, 108, 101, 97, 110]⟩, .string ⟨#[110, 117, 109, 98, 101, 114]⟩, .string ⟨#[115, 116, 114, 105, 110, 103]⟩, .string ⟨#[116, 97, 98, 108, 101]⟩, .string ⟨#[102, 117, 110, 99, 116, 105, 111, 110]⟩, .string ⟨#[102, 117, 110, 99, 116, 105, 111, 110]⟩, .string ⟨#[116, 104, 114, 101, 97, 100]⟩]) (.int .i64 3)).run Tryd.prog w = .ok (.string ⟨#[115, 116, 114, 105, 110, 103]⟩) w := fun _ => by kernel_rfl
      go_enter Tryd.func64, Tryd.ntmps64
      go_wp2
      go_ret
      exact ⟨rfl, fin _ _⟩
    · clear h
      have ix : ∀ w : World, (Instr.index 90 (.agg #[.string ⟨#[110, 105, 108]⟩, .string ⟨#[98, 111, 111, 108, 101, 97, 110]⟩, .string ⟨#[110, 117, 109, 98, 101, 114]⟩, .string ⟨#[115, 116, 114, 105, 110, 103]⟩, .string ⟨#[116, 97, 98, 108, 101]⟩, .string ⟨#[102, 117, 110, 99, 116, 105, 111, 110]⟩, .string ⟨#[102, 117, 110, 99, 116, 105, 111, 110]⟩, .string ⟨#[116, 104, 114, 101, 97, 100]⟩]) (.int .i64 4)).run Tryd.prog w = .ok (.string ⟨#[116, 97, 98, 108, 101]⟩) w := fun _ => by kernel_rfl
      go_enter Tryd.func64, Tryd.ntmps64
      go_wp2
      go_ret
      exact ⟨rfl, fin _ _⟩
    · clear h
      have ix : ∀ w : World, (Instr.index 90 (.agg #[.string ⟨#[110, 105, 108]⟩, .string ⟨#[98, 111, 111, 108, 101, 97, 110]⟩, .string ⟨#[110, 117, 109, 98, 101, 114]⟩, .string ⟨#[115, 116, 114, 105, 110, 103]⟩, .string ⟨#[116, 97, 98, 108, 101]⟩, .string ⟨#[102, 117, 110, 99, 116, 105, 111, 110]⟩, .string ⟨#[102, 117, 110, 99, 116, 105, 111, 110]⟩, .string ⟨#[116, 104, 114, 101, 97, 100]⟩]) (.int .i64 5)).run Tryd.prog w = .ok (.string ⟨#[102, 117, 110, 99, 116, 105, 111, 110]⟩) w := fun _ => by kernel_rfl
      go_enter Tryd.func64, Tryd.ntmps64
      go_wp2
      go_ret
      exact ⟨rfl, fin _ _⟩
    · clear h
      have ix : ∀ w : World, (Instr.index 90 (.agg #[.string ⟨#[110, 105, 108]⟩, .string ⟨#[98, 111, 111, 108, 101, 97, 110]⟩, .string ⟨#[110, 117, 109, 98, 101, 114]⟩, .string ⟨#[115, 116, 114, 105, 110, 103]⟩, .string ⟨#[116, 97, 98, 108, 101]⟩, .string ⟨#[102, 117, 110, 99, 116, 105, 111, 110]⟩, .string ⟨#[102, 117, 110, 99, 116, 105, 111, 110]⟩, .string ⟨#[116, 104, 114, 101, 97, 100]⟩]) (.int .i64 6)).run Tryd.prog w = .ok (.string ⟨#[102, 117, 110, 99, 116, 105, 111, 110]⟩) w := fun _ => by kernel_rfl
      go_enter Tryd.func64, Tryd.ntmps64
      go_wp2
      go_ret
      exact ⟨rfl, fin _ _⟩
    · clear h
      have ix : ∀ w : World, (Instr.index 90 (.agg #[.string ⟨#[110, 105, 108]⟩, .string ⟨#[98, 111, 111, 108, 101, 97, 110]⟩, .string ⟨#[110, 117, 109, 98, 101, 114]⟩, .string ⟨#[115, 116, 114, 105, 110, 103]⟩, .string ⟨#[116, 97, 98, 108, 101]⟩, .string ⟨#[102, 117, 110, 99, 116, 105, 111, 110]⟩, .string ⟨#[102, 117, 110, 99, 116, 105, 111, 110]⟩, .string ⟨#[116, 104, 114, 101, 97, 100]⟩]) (.int .i64 7)).run Tryd.prog w = .ok (.string ⟨#[116, 104, 114, 101, 97, 100]⟩) w := fun _ => by kernel_rfl
      go_enter Tryd.func64, Tryd.ntmps64
      go_wp2
      go_ret
      exact ⟨rfl, fin _ _⟩
theorem sizeL (l : List UInt8) : (⟨l.toArray⟩ : ByteArray).size = l.length := by simp [ByteArray.size]
end Go.Proofs.YtpgpmldaggpciaaDoor.TabW
