/- Are values great: the call over a row of two values. -/
import Derived.Test.YtpgpmldaggpciaaDoorValH
set_option linter.unusedVariables false
set_option linter.unusedSimpArgs false
namespace Go.Proofs.YtpgpmldaggpciaaDoor.GW
open Go.RowKit Go.Proofs.YtpgpmldaggpciaaDoorW.PrintWords Go.Proofs.YtpgpmldaggpciaaDoorW.PrintLast Go.Proofs.YtpgpmldaggpciaaDoor.Maths Go.Proofs.YtpgpmldaggpciaaDoor.TabW Go.Proofs.YtpgpmldaggpciaaDoor.HK Go.Proofs.YtpgpmldaggpciaaDoor.Val
set_option maxHeartbeats 4000000 in
theorem hGreat2 (k0 n0 : Int) (s0 : ByteArray) (k1 n1 : Int) (s1 : ByteArray) (b : Nat) (w : World) (g0 g1 : Bool) (h : Blk w b 32 [.int .i64 k0, .int .i64 n0, .string s0, .int .i64 k1, .int .i64 n1, .string s1]) (h0 : decide (10000 < (s0.size : Int)) = g0) (h1 : decide (10000 < (s1.size : Int)) = g1) :
    Calls Tryd.prog 44 #[.slice (some ⟨b, 0, none⟩) 2 2] w fun e w' => e = .returned (.bool (g0 || g1)) ∧ Below w.heap.size w w' := by
  have HC0 := Lib.hid h
  clear h
  go_enter Tryd.func44, Tryd.ntmps44
  go_wp2
  go_loopw [7] (fun iv wr => ∃ j : Nat, j ≤ 2 ∧ iv = .int .i64 j ∧ Hid (Below w.heap.size w wr ∧ (0 < j → g0 = false) ∧ (1 < j → g1 = false))) (fun iv _ => 2 - (intOf iv).toNat)
  case atStart => exact ⟨0, by omega, rfl, Lib.hid ⟨Below.refl _ _, by omega, by omega⟩⟩
  case round =>
    obtain ⟨j, hj, rfl, hf⟩ := hrel
    have HC := Lib.hid (HC0.out.of (hf.out.1.block _ HC0.out.lt))
    by_cases e0 : j = 0
    · subst e0
      have c0 := HC.out.cell 0 _ rfl
      have fz0 := HC.out.frozen 0
      have c1 := HC.out.cell 1 _ rfl
      have fz1 := HC.out.frozen 1
      have c2 := HC.out.cell 2 _ rfl
      have fz2 := HC.out.frozen 2
      cases g0
      · go_wp2
        go_roundw
        case rel => exact ⟨1, by omega, by first | rfl | go_num, Lib.hid ⟨bel1 hf.out.1 _, by simp, by omega⟩⟩
        case measure => simp [intOf]
      · go_wp2
        go_ret
        exact ⟨by simp, bel1 hf.out.1 _⟩
    by_cases e1 : j = 1
    · subst e1
      have c0 := HC.out.cell 3 _ rfl
      have fz0 := HC.out.frozen 3
      have c1 := HC.out.cell 4 _ rfl
      have fz1 := HC.out.frozen 4
      have c2 := HC.out.cell 5 _ rfl
      have fz2 := HC.out.frozen 5
      cases g1
      · go_wp2
        go_roundw
        case rel => exact ⟨2, by omega, by first | rfl | go_num, Lib.hid ⟨bel1 hf.out.1 _, fun hq => hf.out.2.1 (by omega), by simp⟩⟩
        case measure => simp [intOf]
      · go_wp2
        go_ret
        exact ⟨by simp, bel1 hf.out.1 _⟩
    obtain rfl : j = 2 := by omega
    have E := Lib.hid (show (g0 || g1) = false by rw [hf.out.2.1 (by omega)]; rw [hf.out.2.2 (by omega)]; rfl)
    go_wp2
    go_ret
    exact ⟨by rw [E.out]; rfl, hf.out.1⟩
end Go.Proofs.YtpgpmldaggpciaaDoor.GW
