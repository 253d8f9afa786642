/- The document's examples of layer 11, call by call over their own arguments. -/
import Derived.Test.YtpgpmldaggpciaaDoorGivenA
import Derived.Test.YtpgpmldaggpciaaDoorHK
import Derived.Test.YtpgpmldaggpciaaDoorWMoreMini
set_option linter.unusedVariables false
set_option linter.unusedSimpArgs false
namespace Go.Proofs.YtpgpmldaggpciaaDoor.GW
open Go.RowKit Go.Proofs.YtpgpmldaggpciaaDoorW.PrintWords Go.Proofs.YtpgpmldaggpciaaDoorW.PrintLast Go.Proofs.YtpgpmldaggpciaaDoorW.PrintMore Go.Proofs.YtpgpmldaggpciaaDoor.Maths Go.Proofs.YtpgpmldaggpciaaDoor.TabW Go.Proofs.YtpgpmldaggpciaaDoor.HK
attribute [local go_sem] max2_int min2_int max_two min_two
theorem itoa1 (n : Nat) (h : n < 10) : itoaS (n : Int) = ⟨#[UInt8.ofNat (48 + n)]⟩ := by
  unfold itoaS; rw [Conv03.itoa_pos, Lib.decDigits_one h]
theorem cBel2 (w : World) (o1 o2 : Obj) : Below w.heap.size w ((w.alloc o1).alloc o2) := ((Below.refl _ _).alloc (Nat.le_refl _) _).alloc (by simp) _
/-! what is made -/
theorem cInt (n : Int) (w : World) : Calls Tryd.prog 53 #[.int .i64 n] w fun e w' => e = .returned (.agg #[.int .i64 2, .int .i64 n, .string ⟨#[]⟩]) ∧ Below w.heap.size w w' := by
  go_enter Tryd.func53, Tryd.ntmps53
  go_wp2
  refine bodyPost_ret (results_cell_row rfl _ _ w.heap.size 32 #[.int .i64 2, .int .i64 n, .string ⟨#[]⟩] (0, 0) _ rfl (Blk.new w [.int .i64 2, .int .i64 n, .string ⟨#[]⟩] _) Tryd.underlying32 rfl (by kernel_rfl)) rfl ⟨rfl, (Below.refl _ _).alloc (Nat.le_refl _) _⟩
theorem cStr (s : ByteArray) (w : World) : Calls Tryd.prog 55 #[.string s] w fun e w' => e = .returned (.agg #[.int .i64 3, .int .i64 0, .string s]) ∧ Below w.heap.size w w' := by
  go_enter Tryd.func55, Tryd.ntmps55
  go_wp2
  refine bodyPost_ret (results_cell_row rfl _ _ w.heap.size 32 #[.int .i64 3, .int .i64 0, .string s] (0, 0) _ rfl (Blk.new w [.int .i64 3, .int .i64 0, .string s] _) Tryd.underlying32 rfl (by kernel_rfl)) rfl ⟨rfl, (Below.refl _ _).alloc (Nat.le_refl _) _⟩
theorem cTruth (w : World) : Calls Tryd.prog 47 #[.agg #[.int .i64 2, .int .i64 0, .string ⟨#[]⟩]] w fun e w' => e = .returned (.bool true) ∧ Below w.heap.size w w' := by
  have hs : ∀ W : World, Calls Tryd.prog 73 #[.agg #[.int .i64 2, .int .i64 0, .string ⟨#[]⟩]] W fun e w' => e = .returned (.bool false) ∧ Below W.heap.size W w' := by
    intro W
    go_enter Tryd.func73, Tryd.ntmps73
    go_wp2
    go_ret
    exact ⟨rfl, (Below.refl _ _).alloc (Nat.le_refl _) _⟩
  have HS := Lib.hid hs
  clear hs
  have HB := Lib.hid ((Below.refl w.heap.size w).alloc (Nat.le_refl _) (.cells #[.int .i64 2, .int .i64 0, .string ⟨#[]⟩] 32))
  go_enter Tryd.func47, Tryd.ntmps47
  go_wp2_with (go_at_call 73; (with_reducible refine (HS.out _).mono ?_); rintro e w1 ⟨rfl, hb⟩; have HB1 := Lib.hid (HB.out.trans (hb.mono HB.out.size)); clear hb)
  go_ret
  exact ⟨rfl, HB1.out⟩
theorem cSwap (op : Int) (h : op = 1 ∨ op = 11 ∨ op = 14) (w : World) : Calls Tryd.prog 48 #[.int .i64 op] w fun e w' => e = .returned (.tuple #[.int .i64 op, .bool false, .bool false]) ∧ Below w.heap.size w w' := by
  obtain rfl | rfl | rfl := h
  all_goals
    go_enter Tryd.func48, Tryd.ntmps48
    go_wp2
    refine bodyPost_ret (v := .tuple #[.int .i64 _, .bool false, .bool false]) (by simp [results, Tryd.results48, go_sem]) rfl ⟨rfl, Below.refl _ _⟩
theorem cLess (w : World) : Calls Tryd.prog 71 #[.agg #[.int .i64 2, .int .i64 1, .string ⟨#[]⟩], .agg #[.int .i64 3, .int .i64 0, .string ⟨#[97]⟩]] w fun e w' => e = .returned (.tuple #[.bool false, .bool false]) ∧ Below w.heap.size w w' := by
  go_enter Tryd.func71, Tryd.ntmps71
  go_wp2
  go_ret2
  exact ⟨rfl, cBel2 _ _ _⟩
theorem cDo14 (w : World) : Calls Tryd.prog 46 #[.int .i64 14, .agg #[.int .i64 2, .int .i64 1, .string ⟨#[]⟩], .agg #[.int .i64 3, .int .i64 0, .string ⟨#[97]⟩], .int .i64 9] w fun e w' => e = .returned (.tuple #[.agg #[.int .i64 0, .int .i64 0, .string ⟨#[]⟩], .int .i64 18]) ∧ Below w.heap.size w w' := by
  have D0 := Lib.hid (D3.start w 32 2 1 ⟨#[]⟩ 3 0 ⟨#[97]⟩)
  go_enter Tryd.func46, Tryd.ntmps46
  go_wp2_with (first | (go_at_call 48; (with_reducible refine (cSwap 14 (by decide) _).mono ?_); rintro e wn ⟨rfl, hb⟩; have D1 := Lib.hid (D0.out.on hb); clear hb; have a0 := D1.out.A.cell 0 _ rfl; have a1 := D1.out.A.cell 1 _ rfl; have a2 := D1.out.A.cell 2 _ rfl; have b0 := D1.out.B.cell 0 _ rfl; have b1 := D1.out.B.cell 1 _ rfl; have b2 := D1.out.B.cell 2 _ rfl; have r0 := D1.out.R.cell 0 _ rfl; have r1 := D1.out.R.cell 1 _ rfl; have r2 := D1.out.R.cell 2 _ rfl; have f0 := D1.out.R.frozen 0; have f1 := D1.out.R.frozen 1; have f2 := D1.out.R.frozen 2) | (go_at_call 71; (with_reducible refine (cLess _).mono ?_); rintro e wn ⟨rfl, hb⟩; have D2 := Lib.hid (D1.out.on hb); clear hb; have a0 := D2.out.A.cell 0 _ rfl; have a1 := D2.out.A.cell 1 _ rfl; have a2 := D2.out.A.cell 2 _ rfl; have b0 := D2.out.B.cell 0 _ rfl; have b1 := D2.out.B.cell 1 _ rfl; have b2 := D2.out.B.cell 2 _ rfl; have r0 := D2.out.R.cell 0 _ rfl; have r1 := D2.out.R.cell 1 _ rfl; have r2 := D2.out.R.cell 2 _ rfl; have f0 := D2.out.R.frozen 0; have f1 := D2.out.R.frozen 1; have f2 := D2.out.R.frozen 2))
  refine bodyPost_ret (results_ct rfl _ _ (w.heap.size + 1 + 1) 32 #[.int .i64 0, .int .i64 0, .string ⟨#[]⟩] (0, 0) _ rfl (D2.out.put 0 0 _).1 Tryd.underlying32 rfl (by kernel_rfl)) rfl ⟨rfl, (D2.out.put 0 0 _).2⟩
theorem cJoin (w : World) (hT : Tab w) : Calls Tryd.prog 69 #[.agg #[.int .i64 2, .int .i64 1, .string ⟨#[]⟩], .agg #[.int .i64 3, .int .i64 0, .string ⟨#[97]⟩], .int .i64 9] w fun e w' => e = .returned (.tuple #[.agg #[.int .i64 3, .int .i64 0, .string ⟨#[49, 97]⟩], .int .i64 0]) ∧ Below w.heap.size w w' := by
  have T0 := Lib.hid hT
  clear hT
  have D0 := Lib.hid (D3.start w 32 2 1 ⟨#[]⟩ 3 0 ⟨#[97]⟩)
  have e1 : stringF 2 1 ⟨#[]⟩ = some (⟨#[49]⟩, true) := by
    unfold stringF stringT; rw [if_pos (by decide), if_pos rfl]; exact congrArg (fun z => some (z, true)) (itoa1 1 (by decide))
  have e2 : stringF 3 0 ⟨#[97]⟩ = some (⟨#[97]⟩, true) := by unfold stringF stringT; rw [if_pos (by decide), if_neg (by decide), if_pos rfl]
  have X1 := Lib.hid (fun W hW => string_calls 2 1 ⟨#[]⟩ _ _ W hW e1)
  have X2 := Lib.hid (fun W hW => string_calls 3 0 ⟨#[97]⟩ _ _ W hW e2)
  have ej : (⟨#[49]⟩ : ByteArray) ++ (⟨#[97]⟩ : ByteArray) = ⟨#[49, 97]⟩ := by decide
  clear e1 e2
  go_enter Tryd.func69, Tryd.ntmps69
  go_wp2_with (first | (go_at_call 54; (with_reducible refine (X1.out _ (T0.out.on D0.out.bel)).mono ?_); rintro e wn ⟨rfl, hb⟩; have D1 := Lib.hid (D0.out.on hb); clear hb; have a0 := D1.out.A.cell 0 _ rfl; have a1 := D1.out.A.cell 1 _ rfl; have a2 := D1.out.A.cell 2 _ rfl; have b0 := D1.out.B.cell 0 _ rfl; have b1 := D1.out.B.cell 1 _ rfl; have b2 := D1.out.B.cell 2 _ rfl; have r0 := D1.out.R.cell 0 _ rfl; have r1 := D1.out.R.cell 1 _ rfl; have r2 := D1.out.R.cell 2 _ rfl; have f0 := D1.out.R.frozen 0; have f1 := D1.out.R.frozen 1; have f2 := D1.out.R.frozen 2) | (go_at_call 54; (with_reducible refine (X2.out _ (T0.out.on D1.out.bel)).mono ?_); rintro e wn ⟨rfl, hb⟩; have D2 := Lib.hid (D1.out.on hb); clear hb; have a0 := D2.out.A.cell 0 _ rfl; have a1 := D2.out.A.cell 1 _ rfl; have a2 := D2.out.A.cell 2 _ rfl; have b0 := D2.out.B.cell 0 _ rfl; have b1 := D2.out.B.cell 1 _ rfl; have b2 := D2.out.B.cell 2 _ rfl; have r0 := D2.out.R.cell 0 _ rfl; have r1 := D2.out.R.cell 1 _ rfl; have r2 := D2.out.R.cell 2 _ rfl; have f0 := D2.out.R.frozen 0; have f1 := D2.out.R.frozen 1; have f2 := D2.out.R.frozen 2) | (go_at_call 55; (with_reducible refine (cStr _ _).mono ?_); rintro e wn ⟨rfl, hb⟩; have D3 := Lib.hid (D2.out.on hb); clear hb; have a0 := D3.out.A.cell 0 _ rfl; have a1 := D3.out.A.cell 1 _ rfl; have a2 := D3.out.A.cell 2 _ rfl; have b0 := D3.out.B.cell 0 _ rfl; have b1 := D3.out.B.cell 1 _ rfl; have b2 := D3.out.B.cell 2 _ rfl; have r0 := D3.out.R.cell 0 _ rfl; have r1 := D3.out.R.cell 1 _ rfl; have r2 := D3.out.R.cell 2 _ rfl; have f0 := D3.out.R.frozen 0; have f1 := D3.out.R.frozen 1; have f2 := D3.out.R.frozen 2))
  try rw [ej]
  refine bodyPost_ret (results_ct rfl _ _ (w.heap.size + 1 + 1) 32 #[.int .i64 3, .int .i64 0, .string ⟨#[49, 97]⟩] (0, 0) _ rfl (D3.out.put 3 0 _).1 Tryd.underlying32 rfl (by kernel_rfl)) rfl ⟨rfl, (D3.out.put 3 0 _).2⟩
theorem cDo11 (w : World) (hT : Tab w) : Calls Tryd.prog 46 #[.int .i64 11, .agg #[.int .i64 2, .int .i64 1, .string ⟨#[]⟩], .agg #[.int .i64 3, .int .i64 0, .string ⟨#[97]⟩], .int .i64 9] w fun e w' => e = .returned (.tuple #[.agg #[.int .i64 3, .int .i64 0, .string ⟨#[49, 97]⟩], .int .i64 0]) ∧ Below w.heap.size w w' := by
  have T0 := Lib.hid hT
  clear hT
  have D0 := Lib.hid (D3.start w 32 2 1 ⟨#[]⟩ 3 0 ⟨#[97]⟩)
  go_enter Tryd.func46, Tryd.ntmps46
  go_wp2_with (first | (go_at_call 48; (with_reducible refine (cSwap 11 (by decide) _).mono ?_); rintro e wn ⟨rfl, hb⟩; have D1 := Lib.hid (D0.out.on hb); clear hb; have a0 := D1.out.A.cell 0 _ rfl; have a1 := D1.out.A.cell 1 _ rfl; have a2 := D1.out.A.cell 2 _ rfl; have b0 := D1.out.B.cell 0 _ rfl; have b1 := D1.out.B.cell 1 _ rfl; have b2 := D1.out.B.cell 2 _ rfl; have r0 := D1.out.R.cell 0 _ rfl; have r1 := D1.out.R.cell 1 _ rfl; have r2 := D1.out.R.cell 2 _ rfl; have f0 := D1.out.R.frozen 0; have f1 := D1.out.R.frozen 1; have f2 := D1.out.R.frozen 2) | (go_at_call 69; (with_reducible refine (cJoin _ (T0.out.on D1.out.bel)).mono ?_); rintro e wn ⟨rfl, hb⟩; have D2 := Lib.hid (D1.out.on hb); clear hb; have a0 := D2.out.A.cell 0 _ rfl; have a1 := D2.out.A.cell 1 _ rfl; have a2 := D2.out.A.cell 2 _ rfl; have b0 := D2.out.B.cell 0 _ rfl; have b1 := D2.out.B.cell 1 _ rfl; have b2 := D2.out.B.cell 2 _ rfl; have r0 := D2.out.R.cell 0 _ rfl; have r1 := D2.out.R.cell 1 _ rfl; have r2 := D2.out.R.cell 2 _ rfl; have f0 := D2.out.R.frozen 0; have f1 := D2.out.R.frozen 1; have f2 := D2.out.R.frozen 2))
  refine bodyPost_ret (results_ct rfl _ _ (w.heap.size + 1 + 1) 32 #[.int .i64 3, .int .i64 0, .string ⟨#[49, 97]⟩] (0, 0) _ rfl (D2.out.put 3 0 _).1 Tryd.underlying32 rfl (by kernel_rfl)) rfl ⟨rfl, (D2.out.put 3 0 _).2⟩
theorem cNum (w : World) : Calls Tryd.prog 93 #[.int .i64 1, .int .i64 10, .int .i64 1] w fun e w' => e = .returned (.tuple #[.int .i64 11, .int .i64 0]) ∧ Below w.heap.size w w' := by
  go_enter Tryd.func93, Tryd.ntmps93
  go_wp2
  go_ret2
  exact ⟨rfl, Below.refl _ _⟩
theorem cNumbers (w : World) (hT : Tab w) : Calls Tryd.prog 92 #[.agg #[.int .i64 3, .int .i64 0, .string ⟨#[49, 48]⟩], .agg #[.int .i64 2, .int .i64 1, .string ⟨#[]⟩]] w fun e w' => e = .returned (.tuple #[.int .i64 10, .int .i64 1, .bool true]) ∧ Below w.heap.size w w' := by
  have T0 := Lib.hid hT
  clear hT
  have e1 : numberF 3 0 ⟨#[49, 48]⟩ = some (10, true) := by decide +kernel
  have e2 : numberF 2 1 ⟨#[]⟩ = some (1, true) := by decide +kernel
  have X1 := Lib.hid (fun W hW => number_calls 3 0 ⟨#[49, 48]⟩ _ _ W hW e1)
  have X2 := Lib.hid (fun W hW => number_calls 2 1 ⟨#[]⟩ _ _ W hW e2)
  have HB := Lib.hid (cBel2 w (.cells #[.int .i64 3, .int .i64 0, .string ⟨#[49, 48]⟩] 32) (.cells #[.int .i64 2, .int .i64 1, .string ⟨#[]⟩] 32))
  have HK2 : Hid (Blk ((w.alloc (.cells #[.int .i64 3, .int .i64 0, .string ⟨#[49, 48]⟩] 32)).alloc (.cells #[.int .i64 2, .int .i64 1, .string ⟨#[]⟩] 32)) (w.heap.size + 1) 32 [.int .i64 2, .int .i64 1, .string ⟨#[]⟩]) := Lib.hid (by
    simpa using Blk.new (w.alloc (.cells #[.int .i64 3, .int .i64 0, .string ⟨#[49, 48]⟩] 32)) [.int .i64 2, .int .i64 1, .string ⟨#[]⟩] 32)
  clear e1 e2
  go_enter Tryd.func92, Tryd.ntmps92
  go_wp2_with (first | (go_at_call 52; (with_reducible refine (X1.out _ (T0.out.on HB.out)).mono ?_); rintro e w1 ⟨rfl, hb⟩; have HB1 := Lib.hid (HB.out.trans (hb.mono HB.out.size)); have HK3 := Lib.hid (HK2.out.of (hb.block _ HK2.out.lt)); clear hb; have b0 := HK3.out.cell 0 _ rfl; have b1 := HK3.out.cell 1 _ rfl; have b2 := HK3.out.cell 2 _ rfl) | (go_at_call 52; (with_reducible refine (X2.out _ (T0.out.on HB1.out)).mono ?_); rintro e w2 ⟨rfl, hb⟩; have HB2 := Lib.hid (HB1.out.trans (hb.mono HB1.out.size)); clear hb))
  refine bodyPost_ret (v := .tuple #[.int .i64 10, .int .i64 1, .bool true]) (by simp [results, Tryd.results92, go_sem]) rfl ⟨rfl, HB2.out⟩
theorem cArith (w : World) (hT : Tab w) : Calls Tryd.prog 72 #[.int .i64 1, .agg #[.int .i64 3, .int .i64 0, .string ⟨#[49, 48]⟩], .agg #[.int .i64 2, .int .i64 1, .string ⟨#[]⟩]] w fun e w' => e = .returned (.tuple #[.agg #[.int .i64 2, .int .i64 11, .string ⟨#[]⟩], .int .i64 0]) ∧ Below w.heap.size w w' := by
  have T0 := Lib.hid hT
  clear hT
  have D0 := Lib.hid (D3.start w 32 3 0 ⟨#[49, 48]⟩ 2 1 ⟨#[]⟩)
  go_enter Tryd.func72, Tryd.ntmps72
  go_wp2_with (first | (go_at_call 92; (with_reducible refine (cNumbers _ (T0.out.on D0.out.bel)).mono ?_); rintro e wn ⟨rfl, hb⟩; have D1 := Lib.hid (D0.out.on hb); clear hb; have a0 := D1.out.A.cell 0 _ rfl; have a1 := D1.out.A.cell 1 _ rfl; have a2 := D1.out.A.cell 2 _ rfl; have b0 := D1.out.B.cell 0 _ rfl; have b1 := D1.out.B.cell 1 _ rfl; have b2 := D1.out.B.cell 2 _ rfl; have r0 := D1.out.R.cell 0 _ rfl; have r1 := D1.out.R.cell 1 _ rfl; have r2 := D1.out.R.cell 2 _ rfl; have f0 := D1.out.R.frozen 0; have f1 := D1.out.R.frozen 1; have f2 := D1.out.R.frozen 2) | (go_at_call 93; (with_reducible refine (cNum _).mono ?_); rintro e wn ⟨rfl, hb⟩; have D2 := Lib.hid (D1.out.on hb); clear hb; have a0 := D2.out.A.cell 0 _ rfl; have a1 := D2.out.A.cell 1 _ rfl; have a2 := D2.out.A.cell 2 _ rfl; have b0 := D2.out.B.cell 0 _ rfl; have b1 := D2.out.B.cell 1 _ rfl; have b2 := D2.out.B.cell 2 _ rfl; have r0 := D2.out.R.cell 0 _ rfl; have r1 := D2.out.R.cell 1 _ rfl; have r2 := D2.out.R.cell 2 _ rfl; have f0 := D2.out.R.frozen 0; have f1 := D2.out.R.frozen 1; have f2 := D2.out.R.frozen 2) | (go_at_call 53; (with_reducible refine (cInt _ _).mono ?_); rintro e wn ⟨rfl, hb⟩; have D3 := Lib.hid (D2.out.on hb); clear hb; have a0 := D3.out.A.cell 0 _ rfl; have a1 := D3.out.A.cell 1 _ rfl; have a2 := D3.out.A.cell 2 _ rfl; have b0 := D3.out.B.cell 0 _ rfl; have b1 := D3.out.B.cell 1 _ rfl; have b2 := D3.out.B.cell 2 _ rfl; have r0 := D3.out.R.cell 0 _ rfl; have r1 := D3.out.R.cell 1 _ rfl; have r2 := D3.out.R.cell 2 _ rfl; have f0 := D3.out.R.frozen 0; have f1 := D3.out.R.frozen 1; have f2 := D3.out.R.frozen 2))
  refine bodyPost_ret (results_ct rfl _ _ (w.heap.size + 1 + 1) 32 #[.int .i64 2, .int .i64 11, .string ⟨#[]⟩] (0, 0) _ rfl (D3.out.put 2 11 _).1 Tryd.underlying32 rfl (by kernel_rfl)) rfl ⟨rfl, (D3.out.put 2 11 _).2⟩
theorem cDo1 (w : World) (hT : Tab w) : Calls Tryd.prog 46 #[.int .i64 1, .agg #[.int .i64 3, .int .i64 0, .string ⟨#[49, 48]⟩], .agg #[.int .i64 2, .int .i64 1, .string ⟨#[]⟩], .int .i64 9] w fun e w' => e = .returned (.tuple #[.agg #[.int .i64 2, .int .i64 11, .string ⟨#[]⟩], .int .i64 0]) ∧ Below w.heap.size w w' := by
  have T0 := Lib.hid hT
  clear hT
  have D0 := Lib.hid (D3.start w 32 3 0 ⟨#[49, 48]⟩ 2 1 ⟨#[]⟩)
  go_enter Tryd.func46, Tryd.ntmps46
  go_wp2_with (first | (go_at_call 48; (with_reducible refine (cSwap 1 (by decide) _).mono ?_); rintro e wn ⟨rfl, hb⟩; have D1 := Lib.hid (D0.out.on hb); clear hb; have a0 := D1.out.A.cell 0 _ rfl; have a1 := D1.out.A.cell 1 _ rfl; have a2 := D1.out.A.cell 2 _ rfl; have b0 := D1.out.B.cell 0 _ rfl; have b1 := D1.out.B.cell 1 _ rfl; have b2 := D1.out.B.cell 2 _ rfl; have r0 := D1.out.R.cell 0 _ rfl; have r1 := D1.out.R.cell 1 _ rfl; have r2 := D1.out.R.cell 2 _ rfl; have f0 := D1.out.R.frozen 0; have f1 := D1.out.R.frozen 1; have f2 := D1.out.R.frozen 2) | (go_at_call 72; (with_reducible refine (cArith _ (T0.out.on D1.out.bel)).mono ?_); rintro e wn ⟨rfl, hb⟩; have D2 := Lib.hid (D1.out.on hb); clear hb; have a0 := D2.out.A.cell 0 _ rfl; have a1 := D2.out.A.cell 1 _ rfl; have a2 := D2.out.A.cell 2 _ rfl; have b0 := D2.out.B.cell 0 _ rfl; have b1 := D2.out.B.cell 1 _ rfl; have b2 := D2.out.B.cell 2 _ rfl; have r0 := D2.out.R.cell 0 _ rfl; have r1 := D2.out.R.cell 1 _ rfl; have r2 := D2.out.R.cell 2 _ rfl; have f0 := D2.out.R.frozen 0; have f1 := D2.out.R.frozen 1; have f2 := D2.out.R.frozen 2))
  refine bodyPost_ret (results_ct rfl _ _ (w.heap.size + 1 + 1) 32 #[.int .i64 2, .int .i64 11, .string ⟨#[]⟩] (0, 0) _ rfl (D2.out.put 2 11 _).1 Tryd.underlying32 rfl (by kernel_rfl)) rfl ⟨rfl, (D2.out.put 2 11 _).2⟩
end Go.Proofs.YtpgpmldaggpciaaDoor.GW
