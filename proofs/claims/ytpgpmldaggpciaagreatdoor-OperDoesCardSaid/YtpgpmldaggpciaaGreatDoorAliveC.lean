/- The document's examples of layer 11, call by call over their own arguments. -/
import Derived.Test.YtpgpmldaggpciaaGreatDoorGivenA
import Derived.Test.YtpgpmldaggpciaaGreatDoorHK
import Derived.Test.YtpgpmldaggpciaaGreatDoorWMoreMini
set_option linter.unusedVariables false
set_option linter.unusedSimpArgs false
namespace Go.Proofs.YtpgpmldaggpciaaGreatDoor.GW
open Go.RowKit Go.Proofs.YtpgpmldaggpciaaGreatDoorW.PrintWords Go.Proofs.YtpgpmldaggpciaaGreatDoorW.PrintLast Go.Proofs.YtpgpmldaggpciaaGreatDoorW.PrintMore Go.Proofs.YtpgpmldaggpciaaGreatDoor.Maths Go.Proofs.YtpgpmldaggpciaaGreatDoor.TabW Go.Proofs.YtpgpmldaggpciaaGreatDoor.HK
attribute [local go_sem] max2_int min2_int max_two min_two
theorem itoa1 (n : Nat) (h : n < 10) : itoaS (n : Int) = ⟨#[UInt8.ofNat (48 + n)]⟩ := by
  unfold itoaS; rw [Conv03.itoa_pos, Lib.decDigits_one h]
theorem cBel2 (w : World) (o1 o2 : Obj) : Below w.heap.size w ((w.alloc o1).alloc o2) := ((Below.refl _ _).alloc (Nat.le_refl _) _).alloc (by simp) _
/-! what is made -/
theorem cInt (n : Int) (w : World) : Calls Tryz.prog 18 #[.int .i64 n] w fun e w' => e = .returned (.agg #[.int .i64 2, .int .i64 n, .string ⟨#[]⟩]) ∧ Below w.heap.size w w' := by
  go_enter Tryz.func18, Tryz.ntmps18
  go_wp2
  refine bodyPost_ret (results_cell_row rfl _ _ w.heap.size 23 #[.int .i64 2, .int .i64 n, .string ⟨#[]⟩] (0, 0) _ rfl (Blk.new w [.int .i64 2, .int .i64 n, .string ⟨#[]⟩] _) Tryz.underlying23 rfl (by kernel_rfl)) rfl ⟨rfl, (Below.refl _ _).alloc (Nat.le_refl _) _⟩
theorem cStr (s : ByteArray) (w : World) : Calls Tryz.prog 17 #[.string s] w fun e w' => e = .returned (.agg #[.int .i64 3, .int .i64 0, .string s]) ∧ Below w.heap.size w w' := by
  go_enter Tryz.func17, Tryz.ntmps17
  go_wp2
  refine bodyPost_ret (results_cell_row rfl _ _ w.heap.size 23 #[.int .i64 3, .int .i64 0, .string s] (0, 0) _ rfl (Blk.new w [.int .i64 3, .int .i64 0, .string s] _) Tryz.underlying23 rfl (by kernel_rfl)) rfl ⟨rfl, (Below.refl _ _).alloc (Nat.le_refl _) _⟩
theorem cTruth (w : World) : Calls Tryz.prog 19 #[.agg #[.int .i64 2, .int .i64 0, .string ⟨#[]⟩]] w fun e w' => e = .returned (.bool true) ∧ Below w.heap.size w w' := by
  have hs : ∀ W : World, Calls Tryz.prog 43 #[.agg #[.int .i64 2, .int .i64 0, .string ⟨#[]⟩]] W fun e w' => e = .returned (.bool false) ∧ Below W.heap.size W w' := by
    intro W
    go_enter Tryz.func43, Tryz.ntmps43
    go_wp2
    go_ret
    exact ⟨rfl, (Below.refl _ _).alloc (Nat.le_refl _) _⟩
  have HS := Lib.hid hs
  clear hs
  have HB := Lib.hid ((Below.refl w.heap.size w).alloc (Nat.le_refl _) (.cells #[.int .i64 2, .int .i64 0, .string ⟨#[]⟩] 23))
  go_enter Tryz.func19, Tryz.ntmps19
  go_wp2_with (go_at_call 43; (with_reducible refine (HS.out _).mono ?_); rintro e w1 ⟨rfl, hb⟩; have HB1 := Lib.hid (HB.out.trans (hb.mono HB.out.size)); clear hb)
  go_ret
  exact ⟨rfl, HB1.out⟩
theorem cSwap (op : Int) (h : op = 1 ∨ op = 11 ∨ op = 14) (w : World) : Calls Tryz.prog 7 #[.int .i64 op] w fun e w' => e = .returned (.tuple #[.int .i64 op, .bool false, .bool false]) ∧ Below w.heap.size w w' := by
  obtain rfl | rfl | rfl := h
  all_goals
    go_enter Tryz.func7, Tryz.ntmps7
    go_wp2
    refine bodyPost_ret (v := .tuple #[.int .i64 _, .bool false, .bool false]) (by simp [results, Tryz.results7, go_sem]) rfl ⟨rfl, Below.refl _ _⟩
theorem cLess (w : World) : Calls Tryz.prog 30 #[.agg #[.int .i64 2, .int .i64 1, .string ⟨#[]⟩], .agg #[.int .i64 3, .int .i64 0, .string ⟨#[97]⟩]] w fun e w' => e = .returned (.tuple #[.bool false, .bool false]) ∧ Below w.heap.size w w' := by
  go_enter Tryz.func30, Tryz.ntmps30
  go_wp2
  go_ret2
  exact ⟨rfl, cBel2 _ _ _⟩
theorem cDo14 (w : World) : Calls Tryz.prog 13 #[.int .i64 14, .agg #[.int .i64 2, .int .i64 1, .string ⟨#[]⟩], .agg #[.int .i64 3, .int .i64 0, .string ⟨#[97]⟩], .int .i64 9] w fun e w' => e = .returned (.tuple #[.agg #[.int .i64 0, .int .i64 0, .string ⟨#[]⟩], .int .i64 18]) ∧ Below w.heap.size w w' := by
  have D0 := Lib.hid (D3.start w 23 2 1 ⟨#[]⟩ 3 0 ⟨#[97]⟩)
  go_enter Tryz.func13, Tryz.ntmps13
  go_wp2_with (first | (go_at_call 7; (with_reducible refine (cSwap 14 (by decide) _).mono ?_); rintro e wn ⟨rfl, hb⟩; have D1 := Lib.hid (D0.out.on hb); clear hb; have a0 := D1.out.A.cell 0 _ rfl; have a1 := D1.out.A.cell 1 _ rfl; have a2 := D1.out.A.cell 2 _ rfl; have b0 := D1.out.B.cell 0 _ rfl; have b1 := D1.out.B.cell 1 _ rfl; have b2 := D1.out.B.cell 2 _ rfl; have r0 := D1.out.R.cell 0 _ rfl; have r1 := D1.out.R.cell 1 _ rfl; have r2 := D1.out.R.cell 2 _ rfl; have f0 := D1.out.R.frozen 0; have f1 := D1.out.R.frozen 1; have f2 := D1.out.R.frozen 2) | (go_at_call 30; (with_reducible refine (cLess _).mono ?_); rintro e wn ⟨rfl, hb⟩; have D2 := Lib.hid (D1.out.on hb); clear hb; have a0 := D2.out.A.cell 0 _ rfl; have a1 := D2.out.A.cell 1 _ rfl; have a2 := D2.out.A.cell 2 _ rfl; have b0 := D2.out.B.cell 0 _ rfl; have b1 := D2.out.B.cell 1 _ rfl; have b2 := D2.out.B.cell 2 _ rfl; have r0 := D2.out.R.cell 0 _ rfl; have r1 := D2.out.R.cell 1 _ rfl; have r2 := D2.out.R.cell 2 _ rfl; have f0 := D2.out.R.frozen 0; have f1 := D2.out.R.frozen 1; have f2 := D2.out.R.frozen 2))
  refine bodyPost_ret (results_ct rfl _ _ (w.heap.size + 1 + 1) 23 #[.int .i64 0, .int .i64 0, .string ⟨#[]⟩] (0, 0) _ rfl (D2.out.put 0 0 _).1 Tryz.underlying23 rfl (by kernel_rfl)) rfl ⟨rfl, (D2.out.put 0 0 _).2⟩
theorem cJoin (w : World) (hT : Tab w) : Calls Tryz.prog 28 #[.agg #[.int .i64 2, .int .i64 1, .string ⟨#[]⟩], .agg #[.int .i64 3, .int .i64 0, .string ⟨#[97]⟩], .int .i64 9] w fun e w' => e = .returned (.tuple #[.agg #[.int .i64 3, .int .i64 0, .string ⟨#[49, 97]⟩], .int .i64 0]) ∧ Below w.heap.size w w' := by
  have T0 := Lib.hid hT
  clear hT
  have D0 := Lib.hid (D3.start w 23 2 1 ⟨#[]⟩ 3 0 ⟨#[97]⟩)
  have e1 : stringF 2 1 ⟨#[]⟩ = some (⟨#[49]⟩, true) := by
    unfold stringF stringT; rw [if_pos (by decide), if_pos rfl]; exact congrArg (fun z => some (z, true)) (itoa1 1 (by decide))
  have e2 : stringF 3 0 ⟨#[97]⟩ = some (⟨#[97]⟩, true) := by unfold stringF stringT; rw [if_pos (by decide), if_neg (by decide), if_pos rfl]
  have X1 := Lib.hid (fun W hW => string_calls 2 1 ⟨#[]⟩ _ _ W hW e1)
  have X2 := Lib.hid (fun W hW => string_calls 3 0 ⟨#[97]⟩ _ _ W hW e2)
  have ej : (⟨#[49]⟩ : ByteArray) ++ (⟨#[97]⟩ : ByteArray) = ⟨#[49, 97]⟩ := by decide
  clear e1 e2
  go_enter Tryz.func28, Tryz.ntmps28
  go_wp2_with (first | (go_at_call 44; (with_reducible refine (X1.out _ (T0.out.on D0.out.bel)).mono ?_); rintro e wn ⟨rfl, hb⟩; have D1 := Lib.hid (D0.out.on hb); clear hb; have a0 := D1.out.A.cell 0 _ rfl; have a1 := D1.out.A.cell 1 _ rfl; have a2 := D1.out.A.cell 2 _ rfl; have b0 := D1.out.B.cell 0 _ rfl; have b1 := D1.out.B.cell 1 _ rfl; have b2 := D1.out.B.cell 2 _ rfl; have r0 := D1.out.R.cell 0 _ rfl; have r1 := D1.out.R.cell 1 _ rfl; have r2 := D1.out.R.cell 2 _ rfl; have f0 := D1.out.R.frozen 0; have f1 := D1.out.R.frozen 1; have f2 := D1.out.R.frozen 2) | (go_at_call 44; (with_reducible refine (X2.out _ (T0.out.on D1.out.bel)).mono ?_); rintro e wn ⟨rfl, hb⟩; have D2 := Lib.hid (D1.out.on hb); clear hb; have a0 := D2.out.A.cell 0 _ rfl; have a1 := D2.out.A.cell 1 _ rfl; have a2 := D2.out.A.cell 2 _ rfl; have b0 := D2.out.B.cell 0 _ rfl; have b1 := D2.out.B.cell 1 _ rfl; have b2 := D2.out.B.cell 2 _ rfl; have r0 := D2.out.R.cell 0 _ rfl; have r1 := D2.out.R.cell 1 _ rfl; have r2 := D2.out.R.cell 2 _ rfl; have f0 := D2.out.R.frozen 0; have f1 := D2.out.R.frozen 1; have f2 := D2.out.R.frozen 2) | (go_at_call 17; (with_reducible refine (cStr _ _).mono ?_); rintro e wn ⟨rfl, hb⟩; have D3 := Lib.hid (D2.out.on hb); clear hb; have a0 := D3.out.A.cell 0 _ rfl; have a1 := D3.out.A.cell 1 _ rfl; have a2 := D3.out.A.cell 2 _ rfl; have b0 := D3.out.B.cell 0 _ rfl; have b1 := D3.out.B.cell 1 _ rfl; have b2 := D3.out.B.cell 2 _ rfl; have r0 := D3.out.R.cell 0 _ rfl; have r1 := D3.out.R.cell 1 _ rfl; have r2 := D3.out.R.cell 2 _ rfl; have f0 := D3.out.R.frozen 0; have f1 := D3.out.R.frozen 1; have f2 := D3.out.R.frozen 2))
  try rw [ej]
  refine bodyPost_ret (results_ct rfl _ _ (w.heap.size + 1 + 1) 23 #[.int .i64 3, .int .i64 0, .string ⟨#[49, 97]⟩] (0, 0) _ rfl (D3.out.put 3 0 _).1 Tryz.underlying23 rfl (by kernel_rfl)) rfl ⟨rfl, (D3.out.put 3 0 _).2⟩
theorem cDo11 (w : World) (hT : Tab w) : Calls Tryz.prog 13 #[.int .i64 11, .agg #[.int .i64 2, .int .i64 1, .string ⟨#[]⟩], .agg #[.int .i64 3, .int .i64 0, .string ⟨#[97]⟩], .int .i64 9] w fun e w' => e = .returned (.tuple #[.agg #[.int .i64 3, .int .i64 0, .string ⟨#[49, 97]⟩], .int .i64 0]) ∧ Below w.heap.size w w' := by
  have T0 := Lib.hid hT
  clear hT
  have D0 := Lib.hid (D3.start w 23 2 1 ⟨#[]⟩ 3 0 ⟨#[97]⟩)
  go_enter Tryz.func13, Tryz.ntmps13
  go_wp2_with (first | (go_at_call 7; (with_reducible refine (cSwap 11 (by decide) _).mono ?_); rintro e wn ⟨rfl, hb⟩; have D1 := Lib.hid (D0.out.on hb); clear hb; have a0 := D1.out.A.cell 0 _ rfl; have a1 := D1.out.A.cell 1 _ rfl; have a2 := D1.out.A.cell 2 _ rfl; have b0 := D1.out.B.cell 0 _ rfl; have b1 := D1.out.B.cell 1 _ rfl; have b2 := D1.out.B.cell 2 _ rfl; have r0 := D1.out.R.cell 0 _ rfl; have r1 := D1.out.R.cell 1 _ rfl; have r2 := D1.out.R.cell 2 _ rfl; have f0 := D1.out.R.frozen 0; have f1 := D1.out.R.frozen 1; have f2 := D1.out.R.frozen 2) | (go_at_call 28; (with_reducible refine (cJoin _ (T0.out.on D1.out.bel)).mono ?_); rintro e wn ⟨rfl, hb⟩; have D2 := Lib.hid (D1.out.on hb); clear hb; have a0 := D2.out.A.cell 0 _ rfl; have a1 := D2.out.A.cell 1 _ rfl; have a2 := D2.out.A.cell 2 _ rfl; have b0 := D2.out.B.cell 0 _ rfl; have b1 := D2.out.B.cell 1 _ rfl; have b2 := D2.out.B.cell 2 _ rfl; have r0 := D2.out.R.cell 0 _ rfl; have r1 := D2.out.R.cell 1 _ rfl; have r2 := D2.out.R.cell 2 _ rfl; have f0 := D2.out.R.frozen 0; have f1 := D2.out.R.frozen 1; have f2 := D2.out.R.frozen 2))
  refine bodyPost_ret (results_ct rfl _ _ (w.heap.size + 1 + 1) 23 #[.int .i64 3, .int .i64 0, .string ⟨#[49, 97]⟩] (0, 0) _ rfl (D2.out.put 3 0 _).1 Tryz.underlying23 rfl (by kernel_rfl)) rfl ⟨rfl, (D2.out.put 3 0 _).2⟩
theorem cNum (w : World) : Calls Tryz.prog 50 #[.int .i64 1, .int .i64 10, .int .i64 1] w fun e w' => e = .returned (.tuple #[.int .i64 11, .int .i64 0]) ∧ Below w.heap.size w w' := by
  go_enter Tryz.func50, Tryz.ntmps50
  go_wp2
  go_ret2
  exact ⟨rfl, Below.refl _ _⟩
theorem cNumbers (w : World) (hT : Tab w) : Calls Tryz.prog 49 #[.agg #[.int .i64 3, .int .i64 0, .string ⟨#[49, 48]⟩], .agg #[.int .i64 2, .int .i64 1, .string ⟨#[]⟩]] w fun e w' => e = .returned (.tuple #[.int .i64 10, .int .i64 1, .bool true]) ∧ Below w.heap.size w w' := by
  have T0 := Lib.hid hT
  clear hT
  have e1 : numberF 3 0 ⟨#[49, 48]⟩ = some (10, true) := by decide +kernel
  have e2 : numberF 2 1 ⟨#[]⟩ = some (1, true) := by decide +kernel
  have X1 := Lib.hid (fun W hW => number_calls 3 0 ⟨#[49, 48]⟩ _ _ W hW e1)
  have X2 := Lib.hid (fun W hW => number_calls 2 1 ⟨#[]⟩ _ _ W hW e2)
  have HB := Lib.hid (cBel2 w (.cells #[.int .i64 3, .int .i64 0, .string ⟨#[49, 48]⟩] 23) (.cells #[.int .i64 2, .int .i64 1, .string ⟨#[]⟩] 23))
  have HK2 : Hid (Blk ((w.alloc (.cells #[.int .i64 3, .int .i64 0, .string ⟨#[49, 48]⟩] 23)).alloc (.cells #[.int .i64 2, .int .i64 1, .string ⟨#[]⟩] 23)) (w.heap.size + 1) 23 [.int .i64 2, .int .i64 1, .string ⟨#[]⟩]) := Lib.hid (by
    simpa using Blk.new (w.alloc (.cells #[.int .i64 3, .int .i64 0, .string ⟨#[49, 48]⟩] 23)) [.int .i64 2, .int .i64 1, .string ⟨#[]⟩] 23)
  clear e1 e2
  go_enter Tryz.func49, Tryz.ntmps49
  go_wp2_with (first | (go_at_call 39; (with_reducible refine (X1.out _ (T0.out.on HB.out)).mono ?_); rintro e w1 ⟨rfl, hb⟩; have HB1 := Lib.hid (HB.out.trans (hb.mono HB.out.size)); have HK3 := Lib.hid (HK2.out.of (hb.block _ HK2.out.lt)); clear hb; have b0 := HK3.out.cell 0 _ rfl; have b1 := HK3.out.cell 1 _ rfl; have b2 := HK3.out.cell 2 _ rfl) | (go_at_call 39; (with_reducible refine (X2.out _ (T0.out.on HB1.out)).mono ?_); rintro e w2 ⟨rfl, hb⟩; have HB2 := Lib.hid (HB1.out.trans (hb.mono HB1.out.size)); clear hb))
  refine bodyPost_ret (v := .tuple #[.int .i64 10, .int .i64 1, .bool true]) (by simp [results, Tryz.results49, go_sem]) rfl ⟨rfl, HB2.out⟩
theorem cArith (w : World) (hT : Tab w) : Calls Tryz.prog 31 #[.int .i64 1, .agg #[.int .i64 3, .int .i64 0, .string ⟨#[49, 48]⟩], .agg #[.int .i64 2, .int .i64 1, .string ⟨#[]⟩]] w fun e w' => e = .returned (.tuple #[.agg #[.int .i64 2, .int .i64 11, .string ⟨#[]⟩], .int .i64 0]) ∧ Below w.heap.size w w' := by
  have T0 := Lib.hid hT
  clear hT
  have D0 := Lib.hid (D3.start w 23 3 0 ⟨#[49, 48]⟩ 2 1 ⟨#[]⟩)
  go_enter Tryz.func31, Tryz.ntmps31
  go_wp2_with (first | (go_at_call 49; (with_reducible refine (cNumbers _ (T0.out.on D0.out.bel)).mono ?_); rintro e wn ⟨rfl, hb⟩; have D1 := Lib.hid (D0.out.on hb); clear hb; have a0 := D1.out.A.cell 0 _ rfl; have a1 := D1.out.A.cell 1 _ rfl; have a2 := D1.out.A.cell 2 _ rfl; have b0 := D1.out.B.cell 0 _ rfl; have b1 := D1.out.B.cell 1 _ rfl; have b2 := D1.out.B.cell 2 _ rfl; have r0 := D1.out.R.cell 0 _ rfl; have r1 := D1.out.R.cell 1 _ rfl; have r2 := D1.out.R.cell 2 _ rfl; have f0 := D1.out.R.frozen 0; have f1 := D1.out.R.frozen 1; have f2 := D1.out.R.frozen 2) | (go_at_call 50; (with_reducible refine (cNum _).mono ?_); rintro e wn ⟨rfl, hb⟩; have D2 := Lib.hid (D1.out.on hb); clear hb; have a0 := D2.out.A.cell 0 _ rfl; have a1 := D2.out.A.cell 1 _ rfl; have a2 := D2.out.A.cell 2 _ rfl; have b0 := D2.out.B.cell 0 _ rfl; have b1 := D2.out.B.cell 1 _ rfl; have b2 := D2.out.B.cell 2 _ rfl; have r0 := D2.out.R.cell 0 _ rfl; have r1 := D2.out.R.cell 1 _ rfl; have r2 := D2.out.R.cell 2 _ rfl; have f0 := D2.out.R.frozen 0; have f1 := D2.out.R.frozen 1; have f2 := D2.out.R.frozen 2) | (go_at_call 18; (with_reducible refine (cInt _ _).mono ?_); rintro e wn ⟨rfl, hb⟩; have D3 := Lib.hid (D2.out.on hb); clear hb; have a0 := D3.out.A.cell 0 _ rfl; have a1 := D3.out.A.cell 1 _ rfl; have a2 := D3.out.A.cell 2 _ rfl; have b0 := D3.out.B.cell 0 _ rfl; have b1 := D3.out.B.cell 1 _ rfl; have b2 := D3.out.B.cell 2 _ rfl; have r0 := D3.out.R.cell 0 _ rfl; have r1 := D3.out.R.cell 1 _ rfl; have r2 := D3.out.R.cell 2 _ rfl; have f0 := D3.out.R.frozen 0; have f1 := D3.out.R.frozen 1; have f2 := D3.out.R.frozen 2))
  refine bodyPost_ret (results_ct rfl _ _ (w.heap.size + 1 + 1) 23 #[.int .i64 2, .int .i64 11, .string ⟨#[]⟩] (0, 0) _ rfl (D3.out.put 2 11 _).1 Tryz.underlying23 rfl (by kernel_rfl)) rfl ⟨rfl, (D3.out.put 2 11 _).2⟩
theorem cDo1 (w : World) (hT : Tab w) : Calls Tryz.prog 13 #[.int .i64 1, .agg #[.int .i64 3, .int .i64 0, .string ⟨#[49, 48]⟩], .agg #[.int .i64 2, .int .i64 1, .string ⟨#[]⟩], .int .i64 9] w fun e w' => e = .returned (.tuple #[.agg #[.int .i64 2, .int .i64 11, .string ⟨#[]⟩], .int .i64 0]) ∧ Below w.heap.size w w' := by
  have T0 := Lib.hid hT
  clear hT
  have D0 := Lib.hid (D3.start w 23 3 0 ⟨#[49, 48]⟩ 2 1 ⟨#[]⟩)
  go_enter Tryz.func13, Tryz.ntmps13
  go_wp2_with (first | (go_at_call 7; (with_reducible refine (cSwap 1 (by decide) _).mono ?_); rintro e wn ⟨rfl, hb⟩; have D1 := Lib.hid (D0.out.on hb); clear hb; have a0 := D1.out.A.cell 0 _ rfl; have a1 := D1.out.A.cell 1 _ rfl; have a2 := D1.out.A.cell 2 _ rfl; have b0 := D1.out.B.cell 0 _ rfl; have b1 := D1.out.B.cell 1 _ rfl; have b2 := D1.out.B.cell 2 _ rfl; have r0 := D1.out.R.cell 0 _ rfl; have r1 := D1.out.R.cell 1 _ rfl; have r2 := D1.out.R.cell 2 _ rfl; have f0 := D1.out.R.frozen 0; have f1 := D1.out.R.frozen 1; have f2 := D1.out.R.frozen 2) | (go_at_call 31; (with_reducible refine (cArith _ (T0.out.on D1.out.bel)).mono ?_); rintro e wn ⟨rfl, hb⟩; have D2 := Lib.hid (D1.out.on hb); clear hb; have a0 := D2.out.A.cell 0 _ rfl; have a1 := D2.out.A.cell 1 _ rfl; have a2 := D2.out.A.cell 2 _ rfl; have b0 := D2.out.B.cell 0 _ rfl; have b1 := D2.out.B.cell 1 _ rfl; have b2 := D2.out.B.cell 2 _ rfl; have r0 := D2.out.R.cell 0 _ rfl; have r1 := D2.out.R.cell 1 _ rfl; have r2 := D2.out.R.cell 2 _ rfl; have f0 := D2.out.R.frozen 0; have f1 := D2.out.R.frozen 1; have f2 := D2.out.R.frozen 2))
  refine bodyPost_ret (results_ct rfl _ _ (w.heap.size + 1 + 1) 23 #[.int .i64 2, .int .i64 11, .string ⟨#[]⟩] (0, 0) _ rfl (D2.out.put 2 11 _).1 Tryz.underlying23 rfl (by kernel_rfl)) rfl ⟨rfl, (D2.out.put 2 11 _).2⟩
end Go.Proofs.YtpgpmldaggpciaaGreatDoor.GW
