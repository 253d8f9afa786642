/- The reference's event of an operator. -/
import Derived.Test.YtpgpmldaggpciaaGreatDoorEventN
set_option linter.unusedVariables false
set_option linter.unusedSimpArgs false
namespace Go.Proofs.YtpgpmldaggpciaaGreatDoor.GW
open Go.RowKit Go.Proofs.YtpgpmldaggpciaaGreatDoor.TabW
def rnms : List ByteArray := [(⟨#[]⟩ : ByteArray), (⟨#[95, 95, 97, 100, 100]⟩ : ByteArray), (⟨#[95, 95, 115, 117, 98]⟩ : ByteArray), (⟨#[95, 95, 109, 117, 108]⟩ : ByteArray), (⟨#[95, 95, 105, 100, 105, 118]⟩ : ByteArray), (⟨#[95, 95, 109, 111, 100]⟩ : ByteArray), (⟨#[95, 95, 98, 97, 110, 100]⟩ : ByteArray), (⟨#[95, 95, 98, 111, 114]⟩ : ByteArray), (⟨#[95, 95, 98, 120, 111, 114]⟩ : ByteArray), (⟨#[95, 95, 115, 104, 108]⟩ : ByteArray), (⟨#[95, 95, 115, 104, 114]⟩ : ByteArray), (⟨#[95, 95, 99, 111, 110, 99, 97, 116]⟩ : ByteArray), (⟨#[95, 95, 101, 113]⟩ : ByteArray), (⟨#[95, 95, 101, 113]⟩ : ByteArray), (⟨#[95, 95, 108, 116]⟩ : ByteArray), (⟨#[95, 95, 108, 101]⟩ : ByteArray), (⟨#[95, 95, 108, 116]⟩ : ByteArray), (⟨#[95, 95, 108, 101]⟩ : ByteArray), (⟨#[]⟩ : ByteArray), (⟨#[]⟩ : ByteArray), (⟨#[95, 95, 117, 110, 109]⟩ : ByteArray), (⟨#[95, 95, 98, 110, 111, 116]⟩ : ByteArray), (⟨#[]⟩ : ByteArray), (⟨#[95, 95, 108, 101, 110]⟩ : ByteArray)]
def rnm (j : Nat) : ByteArray := rnms.getD j ⟨#[]⟩
theorem rnm_ev (j : Nat) (hj : j < 24) : eventS (j : Nat) = rnm j := by
  have h : ∀ j, j < 24 → eventS (j : Nat) = rnm j := by decide +kernel
  exact h j hj
theorem rbd (W : World) : (Instr.build 45 #[(0, .string ⟨#[]⟩), (1, .string ⟨#[95, 95, 97, 100, 100]⟩), (2, .string ⟨#[95, 95, 115, 117, 98]⟩), (3, .string ⟨#[95, 95, 109, 117, 108]⟩), (4, .string ⟨#[95, 95, 105, 100, 105, 118]⟩), (5, .string ⟨#[95, 95, 109, 111, 100]⟩), (6, .string ⟨#[95, 95, 98, 97, 110, 100]⟩), (7, .string ⟨#[95, 95, 98, 111, 114]⟩), (8, .string ⟨#[95, 95, 98, 120, 111, 114]⟩), (9, .string ⟨#[95, 95, 115, 104, 108]⟩), (10, .string ⟨#[95, 95, 115, 104, 114]⟩), (11, .string ⟨#[95, 95, 99, 111, 110, 99, 97, 116]⟩), (12, .string ⟨#[95, 95, 101, 113]⟩), (13, .string ⟨#[95, 95, 101, 113]⟩), (14, .string ⟨#[95, 95, 108, 116]⟩), (15, .string ⟨#[95, 95, 108, 101]⟩), (16, .string ⟨#[95, 95, 108, 116]⟩), (17, .string ⟨#[95, 95, 108, 101]⟩), (18, .string ⟨#[]⟩), (19, .string ⟨#[]⟩), (20, .string ⟨#[95, 95, 117, 110, 109]⟩), (21, .string ⟨#[95, 95, 98, 110, 111, 116]⟩), (22, .string ⟨#[]⟩), (23, .string ⟨#[95, 95, 108, 101, 110]⟩)]).run Tryz.prog W = .ok (.agg #[.string ⟨#[]⟩, .string ⟨#[95, 95, 97, 100, 100]⟩, .string ⟨#[95, 95, 115, 117, 98]⟩, .string ⟨#[95, 95, 109, 117, 108]⟩, .string ⟨#[95, 95, 105, 100, 105, 118]⟩, .string ⟨#[95, 95, 109, 111, 100]⟩, .string ⟨#[95, 95, 98, 97, 110, 100]⟩, .string ⟨#[95, 95, 98, 111, 114]⟩, .string ⟨#[95, 95, 98, 120, 111, 114]⟩, .string ⟨#[95, 95, 115, 104, 108]⟩, .string ⟨#[95, 95, 115, 104, 114]⟩, .string ⟨#[95, 95, 99, 111, 110, 99, 97, 116]⟩, .string ⟨#[95, 95, 101, 113]⟩, .string ⟨#[95, 95, 101, 113]⟩, .string ⟨#[95, 95, 108, 116]⟩, .string ⟨#[95, 95, 108, 101]⟩, .string ⟨#[95, 95, 108, 116]⟩, .string ⟨#[95, 95, 108, 101]⟩, .string ⟨#[]⟩, .string ⟨#[]⟩, .string ⟨#[95, 95, 117, 110, 109]⟩, .string ⟨#[95, 95, 98, 110, 111, 116]⟩, .string ⟨#[]⟩, .string ⟨#[95, 95, 108, 101, 110]⟩]) W := run_build W 45 #[(0, .string ⟨#[]⟩), (1, .string ⟨#[95, 95, 97, 100, 100]⟩), (2, .string ⟨#[95, 95, 115, 117, 98]⟩), (3, .string ⟨#[95, 95, 109, 117, 108]⟩), (4, .string ⟨#[95, 95, 105, 100, 105, 118]⟩), (5, .string ⟨#[95, 95, 109, 111, 100]⟩), (6, .string ⟨#[95, 95, 98, 97, 110, 100]⟩), (7, .string ⟨#[95, 95, 98, 111, 114]⟩), (8, .string ⟨#[95, 95, 98, 120, 111, 114]⟩), (9, .string ⟨#[95, 95, 115, 104, 108]⟩), (10, .string ⟨#[95, 95, 115, 104, 114]⟩), (11, .string ⟨#[95, 95, 99, 111, 110, 99, 97, 116]⟩), (12, .string ⟨#[95, 95, 101, 113]⟩), (13, .string ⟨#[95, 95, 101, 113]⟩), (14, .string ⟨#[95, 95, 108, 116]⟩), (15, .string ⟨#[95, 95, 108, 101]⟩), (16, .string ⟨#[95, 95, 108, 116]⟩), (17, .string ⟨#[95, 95, 108, 101]⟩), (18, .string ⟨#[]⟩), (19, .string ⟨#[]⟩), (20, .string ⟨#[95, 95, 117, 110, 109]⟩), (21, .string ⟨#[95, 95, 98, 110, 111, 116]⟩), (22, .string ⟨#[]⟩), (23, .string ⟨#[95, 95, 108, 101, 110]⟩)] #[.string ⟨#[]⟩, .string ⟨#[95, 95, 97, 100, 100]⟩, .string ⟨#[95, 95, 115, 117, 98]⟩, .string ⟨#[95, 95, 109, 117, 108]⟩, .string ⟨#[95, 95, 105, 100, 105, 118]⟩, .string ⟨#[95, 95, 109, 111, 100]⟩, .string ⟨#[95, 95, 98, 97, 110, 100]⟩, .string ⟨#[95, 95, 98, 111, 114]⟩, .string ⟨#[95, 95, 98, 120, 111, 114]⟩, .string ⟨#[95, 95, 115, 104, 108]⟩, .string ⟨#[95, 95, 115, 104, 114]⟩, .string ⟨#[95, 95, 99, 111, 110, 99, 97, 116]⟩, .string ⟨#[95, 95, 101, 113]⟩, .string ⟨#[95, 95, 101, 113]⟩, .string ⟨#[95, 95, 108, 116]⟩, .string ⟨#[95, 95, 108, 101]⟩, .string ⟨#[95, 95, 108, 116]⟩, .string ⟨#[95, 95, 108, 101]⟩, .string ⟨#[]⟩, .string ⟨#[]⟩, .string ⟨#[95, 95, 117, 110, 109]⟩, .string ⟨#[95, 95, 98, 110, 111, 116]⟩, .string ⟨#[]⟩, .string ⟨#[95, 95, 108, 101, 110]⟩] (by kernel_rfl)
theorem rix (j : Nat) (hj : j < 24) (W : World) : (Instr.index 45 (.agg #[.string ⟨#[]⟩, .string ⟨#[95, 95, 97, 100, 100]⟩, .string ⟨#[95, 95, 115, 117, 98]⟩, .string ⟨#[95, 95, 109, 117, 108]⟩, .string ⟨#[95, 95, 105, 100, 105, 118]⟩, .string ⟨#[95, 95, 109, 111, 100]⟩, .string ⟨#[95, 95, 98, 97, 110, 100]⟩, .string ⟨#[95, 95, 98, 111, 114]⟩, .string ⟨#[95, 95, 98, 120, 111, 114]⟩, .string ⟨#[95, 95, 115, 104, 108]⟩, .string ⟨#[95, 95, 115, 104, 114]⟩, .string ⟨#[95, 95, 99, 111, 110, 99, 97, 116]⟩, .string ⟨#[95, 95, 101, 113]⟩, .string ⟨#[95, 95, 101, 113]⟩, .string ⟨#[95, 95, 108, 116]⟩, .string ⟨#[95, 95, 108, 101]⟩, .string ⟨#[95, 95, 108, 116]⟩, .string ⟨#[95, 95, 108, 101]⟩, .string ⟨#[]⟩, .string ⟨#[]⟩, .string ⟨#[95, 95, 117, 110, 109]⟩, .string ⟨#[95, 95, 98, 110, 111, 116]⟩, .string ⟨#[]⟩, .string ⟨#[95, 95, 108, 101, 110]⟩]) (.int .i64 (j : Int))).run Tryz.prog W = .ok (.string (rnm j)) W := by
  obtain rfl | rfl | rfl | rfl | rfl | rfl | rfl | rfl | rfl | rfl | rfl | rfl | rfl | rfl | rfl | rfl | rfl | rfl | rfl | rfl | rfl | rfl | rfl | rfl : j = 0 ∨ j = 1 ∨ j = 2 ∨ j = 3 ∨ j = 4 ∨ j = 5 ∨ j = 6 ∨ j = 7 ∨ j = 8 ∨ j = 9 ∨ j = 10 ∨ j = 11 ∨ j = 12 ∨ j = 13 ∨ j = 14 ∨ j = 15 ∨ j = 16 ∨ j = 17 ∨ j = 18 ∨ j = 19 ∨ j = 20 ∨ j = 21 ∨ j = 22 ∨ j = 23 := by omega
  all_goals kernel_rfl
attribute [local go_sem ↓] rbd
def reventF (op : Int) : Option ByteArray := some (eventS op)
theorem revent_calls (op : Int) (r : ByteArray) (w : World) (h : reventF op = some r) : Calls Tryz.prog 10 #[.int .i64 op] w fun e w' => e = .returned (.string r) ∧ Below w.heap.size w w' := by
  obtain rfl := Option.some.inj h
  clear h
  obtain ⟨r, hr⟩ : ∃ r, eventS op = r := ⟨_, rfl⟩
  have HE : Hid ((op < 0 ∨ op > 23) → r = ⟨#[]⟩) := Lib.hid (by
    intro h
    rw [← hr]
    unfold eventS
    repeat (first | rw [if_neg (by omega)]))
  have HN : Hid (∀ j : Nat, j < 24 → op = (j : Int) → r = rnm j) := Lib.hid (fun j hj he => by rw [← hr, he]; exact rnm_ev j hj)
  rw [hr]
  clear hr
  by_cases h0 : op < 0
  · have hr := HE.out (Or.inl h0)
    subst hr
    have hb : decide (op < 0) = true := decide_eq_true h0
    clear h0
    go_enter Tryz.func10, Tryz.ntmps10
    go_wp2_with fail
    go_ret
    exact ⟨rfl, Below.refl _ _⟩
  · by_cases h24 : op > 23
    · have hr := HE.out (Or.inr h24)
      subst hr
      have hb : decide (op < 0) = false := decide_eq_false h0
      have hc : decide (23 < op) = true := decide_eq_true h24
      clear h0 h24
      go_enter Tryz.func10, Tryz.ntmps10
      go_wp2_with fail
      go_ret
      exact ⟨rfl, Below.refl _ _⟩
    · obtain ⟨j, rfl⟩ := Int.eq_ofNat_of_zero_le (show 0 ≤ op by omega)
      have hj : j < 24 := by omega
      have hr := HN.out j hj rfl
      subst hr
      have hb : decide ((j : Int) < 0) = false := decide_eq_false h0
      have hc : decide ((23 : Int) < (j : Int)) = false := decide_eq_false h24
      have ix := rix j hj
      clear h0 h24 hj
      go_enter Tryz.func10, Tryz.ntmps10
      go_wp2_with fail
      go_ret
      exact ⟨rfl, Below.refl _ _⟩
end Go.Proofs.YtpgpmldaggpciaaGreatDoor.GW
