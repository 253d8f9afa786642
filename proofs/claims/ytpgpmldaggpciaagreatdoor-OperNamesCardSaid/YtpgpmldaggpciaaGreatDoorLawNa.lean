/- The plain law OperNames. -/
import Derived.Test.YtpgpmldaggpciaaGreatDoorPNam0
set_option linter.unusedVariables false
set_option linter.unusedSimpArgs false
namespace Go.Proofs.YtpgpmldaggpciaaGreatDoor.LawNa
open Go.RowKit Go.Proofs.YtpgpmldaggpciaaGreatDoor.PNa Go.Proofs.YtpgpmldaggpciaaGreatDoorW.PrintWords Go.Proofs.YtpgpmldaggpciaaGreatDoorW.PrintLast Go.Proofs.YtpgpmldaggpciaaGreatDoorW.PrintMore Go.Proofs.YtpgpmldaggpciaaGreatDoor.Maths Go.Proofs.YtpgpmldaggpciaaGreatDoor.TabW Go.Proofs.YtpgpmldaggpciaaGreatDoor.GW
def greatB (l : List S23) : Bool := l.any fun v => decide (10000 < v.f2.size)
theorem great_loop (l : List S23) (hm : l.length ≤ 3) (d : Nat) : ∀ (k i : Nat), i + d = l.length → d < k → selkielaw11_great.l0 k l (l.length : Int) (i : Int) = some (greatB (l.drop i)) := by
  induction d with
  | zero =>
    intro k i h hk
    obtain ⟨k, rfl⟩ : ∃ j, k = j + 1 := ⟨k - 1, by omega⟩
    rw [selkielaw11_great.l0, if_neg (by omega), List.drop_eq_nil_of_le (by omega)]; rfl
  | succ d ih =>
    intro k i h hk
    obtain ⟨k, rfl⟩ : ∃ j, k = j + 1 := ⟨k - 1, by omega⟩
    rw [selkielaw11_great.l0, if_pos (by omega), if_pos (by omega), if_pos (by omega)]
    have hi : i < l.length := by omega
    have e : rd_T23 l (i : Int) = l[i] := by unfold rd_T23; rw [Int.toNat_natCast, List.getD_eq_getElem?_getD, List.getElem?_eq_getElem hi]; rfl
    rw [e, List.drop_eq_getElem_cons hi]
    by_cases hg : ((l[i].f2.size : Nat) : Int) > 10000
    · rw [if_pos hg]; congr 1; unfold greatB; rw [List.any_cons, decide_eq_true (by omega), Bool.true_or]
    · rw [if_neg hg, wrap64_in (by omega)]
      have := ih k (i + 1) (by omega) (by omega)
      rw [show ((i : Int) + 1) = ((i + 1 : Nat) : Int) by omega, this]; congr 1; unfold greatB; rw [List.any_cons, decide_eq_false (by omega), Bool.false_or]
theorem great_is (k : Nat) (l : List S23) (hm : l.length ≤ 3) : selkielaw11_great.f (k + 4) l = some (greatB l) := by
  unfold selkielaw11_great.f
  have := great_loop l hm l.length (k + 4) 0 (by omega) (by omega)
  simpa using this
theorem names_is (op k n : Int) (s : ByteArray) (k2 n2 : Int) (s2 : ByteArray) (hn : inR n) : selkielaw11_OperNames.f 4 op k n s k2 n2 s2 = some true := by
  unfold selkielaw11_OperNames.f
  have h0 : PNa.selkielaw11_alive.f = some true := rfl
  rw [h0, great_is 0 _ (by simp)]; simp only [Option.bind_some]
  rw [if_pos trivial]
  by_cases hg : greatB [⟨k, n, s⟩, ⟨k2, n2, s2⟩] = true
  · rw [if_pos hg]
  rw [if_neg hg]
  have hz : s.size ≤ 10000 ∧ s2.size ≤ 10000 := by
    simp [greatB] at hg; omega
  obtain ⟨x, hx⟩ : ∃ x, PBl.oper_Swap.f op = some x := by
    unfold PBl.oper_Swap.f; repeat' split
    all_goals exact ⟨_, rfl⟩
  have e1 : PNa.oper_Swap.f op = some x := hx
  have e2 : PNa.selkieref11_Swap.f op = some x := hx
  have e3 : PNa.oper_Event.f op = some (eventS op) := rfl
  have e4 : PNa.selkieref11_Event.f op = some (eventS op) := rfl
  have e5 : PNa.oper_Blame.f op k n s k2 n2 s2 = some (blameT op k n s k2 n2 s2) := by unfold PNa.oper_Blame.f blameF; rw [if_pos ⟨hn, by omega⟩]
  have e6 : PNa.selkieref11_Blame.f op k n s k2 n2 s2 = some (blameT op k n s k2 n2 s2) := by unfold PNa.selkieref11_Blame.f rblameF; rw [if_pos ⟨hn, by omega⟩]
  rw [e1, e2, e3, e4, e5, e6]
  simp
theorem names_walk (op k n : Int) (s : ByteArray) (k2 n2 : Int) (s2 : ByteArray) (w : World) (hT : Tab w) (hn : inR n) :
    Calls Tryz.prog 3 #[.int .i64 op, .agg #[.int .i64 k, .int .i64 n, .string s], .agg #[.int .i64 k2, .int .i64 n2, .string s2]] w fun e w' => e = .returned (.bool true) ∧ Below w.heap.size w w' :=
  selkielaw11_OperNames.calls 4 op k n s k2 n2 s2 true w hT rfl (names_is op k n s k2 n2 s2 hn)
end Go.Proofs.YtpgpmldaggpciaaGreatDoor.LawNa
