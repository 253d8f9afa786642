/- The reference's Do of layer 11 by hand: it answers as the plain function of package oper. -/
import Derived.Test.YtpgpmldaggpciaaGreatDoorOperI
import Derived.Test.YtpgpmldaggpciaaGreatDoorGivenQ
set_option linter.unusedVariables false
set_option linter.unusedSimpArgs false
set_option maxRecDepth 20000
namespace Go.Proofs.YtpgpmldaggpciaaGreatDoor.GW
open Go.RowKit Go.Proofs.YtpgpmldaggpciaaGreatDoorW.PrintWords Go.Proofs.YtpgpmldaggpciaaGreatDoorW.PrintLast Go.Proofs.YtpgpmldaggpciaaGreatDoorW.PrintMore Go.Proofs.YtpgpmldaggpciaaGreatDoor.Maths Go.Proofs.YtpgpmldaggpciaaGreatDoor.TabW Go.Proofs.YtpgpmldaggpciaaGreatDoor.HK Go.Proofs.YtpgpmldaggpciaaGreatDoor.Val
attribute [local go_sem] max2_int min2_int max_two min_two
theorem rT11 (b : Bool) (w : World) : Calls Tryz.prog 36 #[.bool b] w fun e w' => e = .returned (.agg #[.int .i64 1, .int .i64 (if b then 1 else 0), .string ⟨#[]⟩]) ∧ Below w.heap.size w w' := by
  cases b
  · go_enter Tryz.func36, Tryz.ntmps36
    go_wp2
    refine bodyPost_ret (results_cell_row rfl _ _ w.heap.size 23 #[.int .i64 1, .int .i64 0, .string ⟨#[]⟩] (0, 0) _ rfl (Blk.new w [.int .i64 1, .int .i64 0, .string ⟨#[]⟩] _) Tryz.underlying23 rfl (by kernel_rfl)) rfl ⟨rfl, bel1 (Below.refl _ _) _⟩
  · go_enter Tryz.func36, Tryz.ntmps36
    go_wp2
    refine bodyPost_ret (results_cell_row rfl _ _ w.heap.size 23 #[.int .i64 1, .int .i64 1, .string ⟨#[]⟩] (0, 0) _ rfl (Blk.new w [.int .i64 1, .int .i64 1, .string ⟨#[]⟩] _) Tryz.underlying23 rfl (by kernel_rfl)) rfl ⟨rfl, bel1 (Below.refl _ _) _⟩
theorem rtruth11_calls (bi : Bool → Int) (hbi : ∀ b, (if b = true then 1 else 0) = bi b) (b : Bool) (w : World) : Calls Tryz.prog 36 #[.bool b] w fun e w' => e = .returned (.agg #[.int .i64 1, .int .i64 (bi b), .string ⟨#[]⟩]) ∧ Below w.heap.size w w' := by
  rw [← hbi b]; exact rT11 b w
set_option maxHeartbeats 8000000 in
theorem qA1 (k n : Int) (s : ByteArray) (k2 n2 : Int) (s2 : ByteArray) (op most x1 y1 : Int) (x2 : Bool) (hx : rnumberF k n s = some (x1, false)) (hy : rnumberF k2 n2 s2 = some (y1, x2)) (g1 : decide (1 ≤ op) = true) (g2 : decide (op ≤ 10) = true) (w : World) (hT : Tab w) : Calls Tryz.prog 14 #[.int .i64 op, .agg #[.int .i64 k, .int .i64 n, .string s], .agg #[.int .i64 k2, .int .i64 n2, .string s2], .int .i64 most] w fun e w' => e = .returned (.tuple #[.agg #[.int .i64 0, .int .i64 0, .string ⟨#[]⟩], .int .i64 18]) ∧ Below w.heap.size w w' := by
  have T0 := Lib.hid hT
  clear hT
  have D0 := Lib.hid (D3.start w 23 k n s k2 n2 s2)
  have X1 := Lib.hid (fun W hW => rnumber_calls k n s _ _ W hW hx)
  have X2 := Lib.hid (fun W hW => rnumber_calls k2 n2 s2 _ _ W hW hy)
  clear hx hy
  go_enter Tryz.func14, Tryz.ntmps14
  go_wp2_with (first | (go_at_call 33; (with_reducible refine (X1.out _ (T0.out.on D0.out.bel)).mono ?_); rintro e wn ⟨rfl, hb⟩; have D1 := Lib.hid ((D0.out).on hb); clear hb; have a0 := D1.out.A.cell 0 _ rfl; have a1 := D1.out.A.cell 1 _ rfl; have a2 := D1.out.A.cell 2 _ rfl; have fa0 := D1.out.A.frozen 0; have fa1 := D1.out.A.frozen 1; have fa2 := D1.out.A.frozen 2; have b0 := D1.out.B.cell 0 _ rfl; have b1 := D1.out.B.cell 1 _ rfl; have b2 := D1.out.B.cell 2 _ rfl; have fb0 := D1.out.B.frozen 0; have fb1 := D1.out.B.frozen 1; have fb2 := D1.out.B.frozen 2; have r0 := D1.out.R.cell 0 _ rfl; have r1 := D1.out.R.cell 1 _ rfl; have r2 := D1.out.R.cell 2 _ rfl; have fr0 := D1.out.R.frozen 0; have fr1 := D1.out.R.frozen 1; have fr2 := D1.out.R.frozen 2) | (go_at_call 33; (with_reducible refine (X2.out _ (T0.out.on D1.out.bel)).mono ?_); rintro e wn ⟨rfl, hb⟩; have D2 := Lib.hid ((D1.out).on hb); clear hb; have a0 := D2.out.A.cell 0 _ rfl; have a1 := D2.out.A.cell 1 _ rfl; have a2 := D2.out.A.cell 2 _ rfl; have fa0 := D2.out.A.frozen 0; have fa1 := D2.out.A.frozen 1; have fa2 := D2.out.A.frozen 2; have b0 := D2.out.B.cell 0 _ rfl; have b1 := D2.out.B.cell 1 _ rfl; have b2 := D2.out.B.cell 2 _ rfl; have fb0 := D2.out.B.frozen 0; have fb1 := D2.out.B.frozen 1; have fb2 := D2.out.B.frozen 2; have r0 := D2.out.R.cell 0 _ rfl; have r1 := D2.out.R.cell 1 _ rfl; have r2 := D2.out.R.cell 2 _ rfl; have fr0 := D2.out.R.frozen 0; have fr1 := D2.out.R.frozen 1; have fr2 := D2.out.R.frozen 2))
  refine bodyPost_ret (results_ct rfl _ _ (w.heap.size + 1 + 1) 23 #[.int .i64 0, .int .i64 0, .string ⟨#[]⟩] (0, 0) _ rfl ((D2.out).put 0 0 _).1 Tryz.underlying23 rfl (by kernel_rfl)) rfl ⟨rfl, ((D2.out).put 0 0 _).2⟩
set_option maxHeartbeats 8000000 in
theorem qA2 (k n : Int) (s : ByteArray) (k2 n2 : Int) (s2 : ByteArray) (op most x1 y1 : Int)  (hx : rnumberF k n s = some (x1, true)) (hy : rnumberF k2 n2 s2 = some (y1, false)) (g1 : decide (1 ≤ op) = true) (g2 : decide (op ≤ 10) = true) (w : World) (hT : Tab w) : Calls Tryz.prog 14 #[.int .i64 op, .agg #[.int .i64 k, .int .i64 n, .string s], .agg #[.int .i64 k2, .int .i64 n2, .string s2], .int .i64 most] w fun e w' => e = .returned (.tuple #[.agg #[.int .i64 0, .int .i64 0, .string ⟨#[]⟩], .int .i64 18]) ∧ Below w.heap.size w w' := by
  have T0 := Lib.hid hT
  clear hT
  have D0 := Lib.hid (D3.start w 23 k n s k2 n2 s2)
  have X1 := Lib.hid (fun W hW => rnumber_calls k n s _ _ W hW hx)
  have X2 := Lib.hid (fun W hW => rnumber_calls k2 n2 s2 _ _ W hW hy)
  clear hx hy
  go_enter Tryz.func14, Tryz.ntmps14
  go_wp2_with (first | (go_at_call 33; (with_reducible refine (X1.out _ (T0.out.on D0.out.bel)).mono ?_); rintro e wn ⟨rfl, hb⟩; have D1 := Lib.hid ((D0.out).on hb); clear hb; have a0 := D1.out.A.cell 0 _ rfl; have a1 := D1.out.A.cell 1 _ rfl; have a2 := D1.out.A.cell 2 _ rfl; have fa0 := D1.out.A.frozen 0; have fa1 := D1.out.A.frozen 1; have fa2 := D1.out.A.frozen 2; have b0 := D1.out.B.cell 0 _ rfl; have b1 := D1.out.B.cell 1 _ rfl; have b2 := D1.out.B.cell 2 _ rfl; have fb0 := D1.out.B.frozen 0; have fb1 := D1.out.B.frozen 1; have fb2 := D1.out.B.frozen 2; have r0 := D1.out.R.cell 0 _ rfl; have r1 := D1.out.R.cell 1 _ rfl; have r2 := D1.out.R.cell 2 _ rfl; have fr0 := D1.out.R.frozen 0; have fr1 := D1.out.R.frozen 1; have fr2 := D1.out.R.frozen 2) | (go_at_call 33; (with_reducible refine (X2.out _ (T0.out.on D1.out.bel)).mono ?_); rintro e wn ⟨rfl, hb⟩; have D2 := Lib.hid ((D1.out).on hb); clear hb; have a0 := D2.out.A.cell 0 _ rfl; have a1 := D2.out.A.cell 1 _ rfl; have a2 := D2.out.A.cell 2 _ rfl; have fa0 := D2.out.A.frozen 0; have fa1 := D2.out.A.frozen 1; have fa2 := D2.out.A.frozen 2; have b0 := D2.out.B.cell 0 _ rfl; have b1 := D2.out.B.cell 1 _ rfl; have b2 := D2.out.B.cell 2 _ rfl; have fb0 := D2.out.B.frozen 0; have fb1 := D2.out.B.frozen 1; have fb2 := D2.out.B.frozen 2; have r0 := D2.out.R.cell 0 _ rfl; have r1 := D2.out.R.cell 1 _ rfl; have r2 := D2.out.R.cell 2 _ rfl; have fr0 := D2.out.R.frozen 0; have fr1 := D2.out.R.frozen 1; have fr2 := D2.out.R.frozen 2))
  refine bodyPost_ret (results_ct rfl _ _ (w.heap.size + 1 + 1) 23 #[.int .i64 0, .int .i64 0, .string ⟨#[]⟩] (0, 0) _ rfl ((D2.out).put 0 0 _).1 Tryz.underlying23 rfl (by kernel_rfl)) rfl ⟨rfl, ((D2.out).put 0 0 _).2⟩
set_option maxHeartbeats 8000000 in
theorem qA3 (k n : Int) (s : ByteArray) (k2 n2 : Int) (s2 : ByteArray) (op most x1 y1 r er : Int) (hx : rnumberF k n s = some (x1, true)) (hy : rnumberF k2 n2 s2 = some (y1, true)) (hd : rnumdoF op x1 y1 = some (r, er)) (he : (er != 0) = true) (g1 : decide (1 ≤ op) = true) (g2 : decide (op ≤ 10) = true) (w : World) (hT : Tab w) : Calls Tryz.prog 14 #[.int .i64 op, .agg #[.int .i64 k, .int .i64 n, .string s], .agg #[.int .i64 k2, .int .i64 n2, .string s2], .int .i64 most] w fun e w' => e = .returned (.tuple #[.agg #[.int .i64 0, .int .i64 0, .string ⟨#[]⟩], .int .i64 er]) ∧ Below w.heap.size w w' := by
  have T0 := Lib.hid hT
  clear hT
  have D0 := Lib.hid (D3.start w 23 k n s k2 n2 s2)
  have X1 := Lib.hid (fun W hW => rnumber_calls k n s _ _ W hW hx)
  have X2 := Lib.hid (fun W hW => rnumber_calls k2 n2 s2 _ _ W hW hy)
  have Y := Lib.hid (fun W => rnumdo_calls op x1 y1 _ _ W hd)
  clear hx hy hd
  go_enter Tryz.func14, Tryz.ntmps14
  go_wp2_with (first | (go_at_call 33; (with_reducible refine (X1.out _ (T0.out.on D0.out.bel)).mono ?_); rintro e wn ⟨rfl, hb⟩; have D1 := Lib.hid ((D0.out).on hb); clear hb; have a0 := D1.out.A.cell 0 _ rfl; have a1 := D1.out.A.cell 1 _ rfl; have a2 := D1.out.A.cell 2 _ rfl; have fa0 := D1.out.A.frozen 0; have fa1 := D1.out.A.frozen 1; have fa2 := D1.out.A.frozen 2; have b0 := D1.out.B.cell 0 _ rfl; have b1 := D1.out.B.cell 1 _ rfl; have b2 := D1.out.B.cell 2 _ rfl; have fb0 := D1.out.B.frozen 0; have fb1 := D1.out.B.frozen 1; have fb2 := D1.out.B.frozen 2; have r0 := D1.out.R.cell 0 _ rfl; have r1 := D1.out.R.cell 1 _ rfl; have r2 := D1.out.R.cell 2 _ rfl; have fr0 := D1.out.R.frozen 0; have fr1 := D1.out.R.frozen 1; have fr2 := D1.out.R.frozen 2) | (go_at_call 33; (with_reducible refine (X2.out _ (T0.out.on D1.out.bel)).mono ?_); rintro e wn ⟨rfl, hb⟩; have D2 := Lib.hid ((D1.out).on hb); clear hb; have a0 := D2.out.A.cell 0 _ rfl; have a1 := D2.out.A.cell 1 _ rfl; have a2 := D2.out.A.cell 2 _ rfl; have fa0 := D2.out.A.frozen 0; have fa1 := D2.out.A.frozen 1; have fa2 := D2.out.A.frozen 2; have b0 := D2.out.B.cell 0 _ rfl; have b1 := D2.out.B.cell 1 _ rfl; have b2 := D2.out.B.cell 2 _ rfl; have fb0 := D2.out.B.frozen 0; have fb1 := D2.out.B.frozen 1; have fb2 := D2.out.B.frozen 2; have r0 := D2.out.R.cell 0 _ rfl; have r1 := D2.out.R.cell 1 _ rfl; have r2 := D2.out.R.cell 2 _ rfl; have fr0 := D2.out.R.frozen 0; have fr1 := D2.out.R.frozen 1; have fr2 := D2.out.R.frozen 2) | (go_at_call 34; (with_reducible refine (Y.out _).mono ?_); rintro e wn ⟨rfl, hb⟩; have D3 := Lib.hid ((D2.out).on hb); clear hb; have a0 := D3.out.A.cell 0 _ rfl; have a1 := D3.out.A.cell 1 _ rfl; have a2 := D3.out.A.cell 2 _ rfl; have fa0 := D3.out.A.frozen 0; have fa1 := D3.out.A.frozen 1; have fa2 := D3.out.A.frozen 2; have b0 := D3.out.B.cell 0 _ rfl; have b1 := D3.out.B.cell 1 _ rfl; have b2 := D3.out.B.cell 2 _ rfl; have fb0 := D3.out.B.frozen 0; have fb1 := D3.out.B.frozen 1; have fb2 := D3.out.B.frozen 2; have r0 := D3.out.R.cell 0 _ rfl; have r1 := D3.out.R.cell 1 _ rfl; have r2 := D3.out.R.cell 2 _ rfl; have fr0 := D3.out.R.frozen 0; have fr1 := D3.out.R.frozen 1; have fr2 := D3.out.R.frozen 2))
  refine bodyPost_ret (results_ct rfl _ _ (w.heap.size + 1 + 1) 23 #[.int .i64 0, .int .i64 0, .string ⟨#[]⟩] (0, 0) _ rfl ((D3.out).put 0 0 _).1 Tryz.underlying23 rfl (by kernel_rfl)) rfl ⟨rfl, ((D3.out).put 0 0 _).2⟩
set_option maxHeartbeats 8000000 in
theorem qA4 (k n : Int) (s : ByteArray) (k2 n2 : Int) (s2 : ByteArray) (op most x1 y1 r : Int) (hx : rnumberF k n s = some (x1, true)) (hy : rnumberF k2 n2 s2 = some (y1, true)) (hd : rnumdoF op x1 y1 = some (r, 0)) (g1 : decide (1 ≤ op) = true) (g2 : decide (op ≤ 10) = true) (w : World) (hT : Tab w) : Calls Tryz.prog 14 #[.int .i64 op, .agg #[.int .i64 k, .int .i64 n, .string s], .agg #[.int .i64 k2, .int .i64 n2, .string s2], .int .i64 most] w fun e w' => e = .returned (.tuple #[.agg #[.int .i64 2, .int .i64 r, .string ⟨#[]⟩], .int .i64 0]) ∧ Below w.heap.size w w' := by
  have T0 := Lib.hid hT
  clear hT
  have D0 := Lib.hid (D3.start w 23 k n s k2 n2 s2)
  have X1 := Lib.hid (fun W hW => rnumber_calls k n s _ _ W hW hx)
  have X2 := Lib.hid (fun W hW => rnumber_calls k2 n2 s2 _ _ W hW hy)
  have Y := Lib.hid (fun W => rnumdo_calls op x1 y1 _ _ W hd)
  clear hx hy hd
  go_enter Tryz.func14, Tryz.ntmps14
  go_wp2_with (first | (go_at_call 33; (with_reducible refine (X1.out _ (T0.out.on D0.out.bel)).mono ?_); rintro e wn ⟨rfl, hb⟩; have D1 := Lib.hid ((D0.out).on hb); clear hb; have a0 := D1.out.A.cell 0 _ rfl; have a1 := D1.out.A.cell 1 _ rfl; have a2 := D1.out.A.cell 2 _ rfl; have fa0 := D1.out.A.frozen 0; have fa1 := D1.out.A.frozen 1; have fa2 := D1.out.A.frozen 2; have b0 := D1.out.B.cell 0 _ rfl; have b1 := D1.out.B.cell 1 _ rfl; have b2 := D1.out.B.cell 2 _ rfl; have fb0 := D1.out.B.frozen 0; have fb1 := D1.out.B.frozen 1; have fb2 := D1.out.B.frozen 2; have r0 := D1.out.R.cell 0 _ rfl; have r1 := D1.out.R.cell 1 _ rfl; have r2 := D1.out.R.cell 2 _ rfl; have fr0 := D1.out.R.frozen 0; have fr1 := D1.out.R.frozen 1; have fr2 := D1.out.R.frozen 2) | (go_at_call 33; (with_reducible refine (X2.out _ (T0.out.on D1.out.bel)).mono ?_); rintro e wn ⟨rfl, hb⟩; have D2 := Lib.hid ((D1.out).on hb); clear hb; have a0 := D2.out.A.cell 0 _ rfl; have a1 := D2.out.A.cell 1 _ rfl; have a2 := D2.out.A.cell 2 _ rfl; have fa0 := D2.out.A.frozen 0; have fa1 := D2.out.A.frozen 1; have fa2 := D2.out.A.frozen 2; have b0 := D2.out.B.cell 0 _ rfl; have b1 := D2.out.B.cell 1 _ rfl; have b2 := D2.out.B.cell 2 _ rfl; have fb0 := D2.out.B.frozen 0; have fb1 := D2.out.B.frozen 1; have fb2 := D2.out.B.frozen 2; have r0 := D2.out.R.cell 0 _ rfl; have r1 := D2.out.R.cell 1 _ rfl; have r2 := D2.out.R.cell 2 _ rfl; have fr0 := D2.out.R.frozen 0; have fr1 := D2.out.R.frozen 1; have fr2 := D2.out.R.frozen 2) | (go_at_call 34; (with_reducible refine (Y.out _).mono ?_); rintro e wn ⟨rfl, hb⟩; have D3 := Lib.hid ((D2.out).on hb); clear hb; have a0 := D3.out.A.cell 0 _ rfl; have a1 := D3.out.A.cell 1 _ rfl; have a2 := D3.out.A.cell 2 _ rfl; have fa0 := D3.out.A.frozen 0; have fa1 := D3.out.A.frozen 1; have fa2 := D3.out.A.frozen 2; have b0 := D3.out.B.cell 0 _ rfl; have b1 := D3.out.B.cell 1 _ rfl; have b2 := D3.out.B.cell 2 _ rfl; have fb0 := D3.out.B.frozen 0; have fb1 := D3.out.B.frozen 1; have fb2 := D3.out.B.frozen 2; have r0 := D3.out.R.cell 0 _ rfl; have r1 := D3.out.R.cell 1 _ rfl; have r2 := D3.out.R.cell 2 _ rfl; have fr0 := D3.out.R.frozen 0; have fr1 := D3.out.R.frozen 1; have fr2 := D3.out.R.frozen 2))
  refine bodyPost_ret (results_ct rfl _ _ (w.heap.size + 1 + 1) 23 #[.int .i64 2, .int .i64 r, .string ⟨#[]⟩] (0, 0) _ rfl ((D3.out).put 2 r _).1 Tryz.underlying23 rfl (by kernel_rfl)) rfl ⟨rfl, ((D3.out).put 2 r _).2⟩
set_option maxHeartbeats 8000000 in
theorem qJ1 (k n : Int) (s : ByteArray) (k2 n2 : Int) (s2 : ByteArray) (most : Int) (x1 y1 : ByteArray) (x2 : Bool) (hx : rstringF k n s = some (x1, false)) (hy : rstringF k2 n2 s2 = some (y1, x2)) (w : World) (hT : Tab w) : Calls Tryz.prog 14 #[.int .i64 11, .agg #[.int .i64 k, .int .i64 n, .string s], .agg #[.int .i64 k2, .int .i64 n2, .string s2], .int .i64 most] w fun e w' => e = .returned (.tuple #[.agg #[.int .i64 0, .int .i64 0, .string ⟨#[]⟩], .int .i64 18]) ∧ Below w.heap.size w w' := by
  have T0 := Lib.hid hT
  clear hT
  have D0 := Lib.hid (D3.start w 23 k n s k2 n2 s2)
  have X1 := Lib.hid (fun W hW => rstring_calls k n s _ _ W hW hx)
  have X2 := Lib.hid (fun W hW => rstring_calls k2 n2 s2 _ _ W hW hy)
  clear hx hy
  go_enter Tryz.func14, Tryz.ntmps14
  go_wp2_with (first | (go_at_call 35; (with_reducible refine (X1.out _ (T0.out.on D0.out.bel)).mono ?_); rintro e wn ⟨rfl, hb⟩; have D1 := Lib.hid ((D0.out).on hb); clear hb; have a0 := D1.out.A.cell 0 _ rfl; have a1 := D1.out.A.cell 1 _ rfl; have a2 := D1.out.A.cell 2 _ rfl; have fa0 := D1.out.A.frozen 0; have fa1 := D1.out.A.frozen 1; have fa2 := D1.out.A.frozen 2; have b0 := D1.out.B.cell 0 _ rfl; have b1 := D1.out.B.cell 1 _ rfl; have b2 := D1.out.B.cell 2 _ rfl; have fb0 := D1.out.B.frozen 0; have fb1 := D1.out.B.frozen 1; have fb2 := D1.out.B.frozen 2; have r0 := D1.out.R.cell 0 _ rfl; have r1 := D1.out.R.cell 1 _ rfl; have r2 := D1.out.R.cell 2 _ rfl; have fr0 := D1.out.R.frozen 0; have fr1 := D1.out.R.frozen 1; have fr2 := D1.out.R.frozen 2) | (go_at_call 35; (with_reducible refine (X2.out _ (T0.out.on D1.out.bel)).mono ?_); rintro e wn ⟨rfl, hb⟩; have D2 := Lib.hid ((D1.out).on hb); clear hb; have a0 := D2.out.A.cell 0 _ rfl; have a1 := D2.out.A.cell 1 _ rfl; have a2 := D2.out.A.cell 2 _ rfl; have fa0 := D2.out.A.frozen 0; have fa1 := D2.out.A.frozen 1; have fa2 := D2.out.A.frozen 2; have b0 := D2.out.B.cell 0 _ rfl; have b1 := D2.out.B.cell 1 _ rfl; have b2 := D2.out.B.cell 2 _ rfl; have fb0 := D2.out.B.frozen 0; have fb1 := D2.out.B.frozen 1; have fb2 := D2.out.B.frozen 2; have r0 := D2.out.R.cell 0 _ rfl; have r1 := D2.out.R.cell 1 _ rfl; have r2 := D2.out.R.cell 2 _ rfl; have fr0 := D2.out.R.frozen 0; have fr1 := D2.out.R.frozen 1; have fr2 := D2.out.R.frozen 2))
  refine bodyPost_ret (results_ct rfl _ _ (w.heap.size + 1 + 1) 23 #[.int .i64 0, .int .i64 0, .string ⟨#[]⟩] (0, 0) _ rfl ((D2.out).put 0 0 _).1 Tryz.underlying23 rfl (by kernel_rfl)) rfl ⟨rfl, ((D2.out).put 0 0 _).2⟩
set_option maxHeartbeats 8000000 in
theorem qJ2 (k n : Int) (s : ByteArray) (k2 n2 : Int) (s2 : ByteArray) (most : Int) (x1 y1 : ByteArray)  (hx : rstringF k n s = some (x1, true)) (hy : rstringF k2 n2 s2 = some (y1, false)) (w : World) (hT : Tab w) : Calls Tryz.prog 14 #[.int .i64 11, .agg #[.int .i64 k, .int .i64 n, .string s], .agg #[.int .i64 k2, .int .i64 n2, .string s2], .int .i64 most] w fun e w' => e = .returned (.tuple #[.agg #[.int .i64 0, .int .i64 0, .string ⟨#[]⟩], .int .i64 18]) ∧ Below w.heap.size w w' := by
  have T0 := Lib.hid hT
  clear hT
  have D0 := Lib.hid (D3.start w 23 k n s k2 n2 s2)
  have X1 := Lib.hid (fun W hW => rstring_calls k n s _ _ W hW hx)
  have X2 := Lib.hid (fun W hW => rstring_calls k2 n2 s2 _ _ W hW hy)
  clear hx hy
  go_enter Tryz.func14, Tryz.ntmps14
  go_wp2_with (first | (go_at_call 35; (with_reducible refine (X1.out _ (T0.out.on D0.out.bel)).mono ?_); rintro e wn ⟨rfl, hb⟩; have D1 := Lib.hid ((D0.out).on hb); clear hb; have a0 := D1.out.A.cell 0 _ rfl; have a1 := D1.out.A.cell 1 _ rfl; have a2 := D1.out.A.cell 2 _ rfl; have fa0 := D1.out.A.frozen 0; have fa1 := D1.out.A.frozen 1; have fa2 := D1.out.A.frozen 2; have b0 := D1.out.B.cell 0 _ rfl; have b1 := D1.out.B.cell 1 _ rfl; have b2 := D1.out.B.cell 2 _ rfl; have fb0 := D1.out.B.frozen 0; have fb1 := D1.out.B.frozen 1; have fb2 := D1.out.B.frozen 2; have r0 := D1.out.R.cell 0 _ rfl; have r1 := D1.out.R.cell 1 _ rfl; have r2 := D1.out.R.cell 2 _ rfl; have fr0 := D1.out.R.frozen 0; have fr1 := D1.out.R.frozen 1; have fr2 := D1.out.R.frozen 2) | (go_at_call 35; (with_reducible refine (X2.out _ (T0.out.on D1.out.bel)).mono ?_); rintro e wn ⟨rfl, hb⟩; have D2 := Lib.hid ((D1.out).on hb); clear hb; have a0 := D2.out.A.cell 0 _ rfl; have a1 := D2.out.A.cell 1 _ rfl; have a2 := D2.out.A.cell 2 _ rfl; have fa0 := D2.out.A.frozen 0; have fa1 := D2.out.A.frozen 1; have fa2 := D2.out.A.frozen 2; have b0 := D2.out.B.cell 0 _ rfl; have b1 := D2.out.B.cell 1 _ rfl; have b2 := D2.out.B.cell 2 _ rfl; have fb0 := D2.out.B.frozen 0; have fb1 := D2.out.B.frozen 1; have fb2 := D2.out.B.frozen 2; have r0 := D2.out.R.cell 0 _ rfl; have r1 := D2.out.R.cell 1 _ rfl; have r2 := D2.out.R.cell 2 _ rfl; have fr0 := D2.out.R.frozen 0; have fr1 := D2.out.R.frozen 1; have fr2 := D2.out.R.frozen 2))
  refine bodyPost_ret (results_ct rfl _ _ (w.heap.size + 1 + 1) 23 #[.int .i64 0, .int .i64 0, .string ⟨#[]⟩] (0, 0) _ rfl ((D2.out).put 0 0 _).1 Tryz.underlying23 rfl (by kernel_rfl)) rfl ⟨rfl, ((D2.out).put 0 0 _).2⟩
set_option maxHeartbeats 8000000 in
theorem qJ3 (k n : Int) (s : ByteArray) (k2 n2 : Int) (s2 : ByteArray) (most m : Int) (x1 y1 : ByteArray) (hx : rstringF k n s = some (x1, true)) (hy : rstringF k2 n2 s2 = some (y1, true)) (hw : wrap64 ((x1.size : Int) + (y1.size : Int)) = (x1.size : Int) + (y1.size : Int)) (hm : (if 0 < most then most else 0) = m) (hl : decide (m < (x1.size : Int) + (y1.size : Int)) = true) (w : World) (hT : Tab w) : Calls Tryz.prog 14 #[.int .i64 11, .agg #[.int .i64 k, .int .i64 n, .string s], .agg #[.int .i64 k2, .int .i64 n2, .string s2], .int .i64 most] w fun e w' => e = .returned (.tuple #[.agg #[.int .i64 0, .int .i64 0, .string ⟨#[]⟩], .int .i64 3]) ∧ Below w.heap.size w w' := by
  have T0 := Lib.hid hT
  clear hT
  have D0 := Lib.hid (D3.start w 23 k n s k2 n2 s2)
  have X1 := Lib.hid (fun W hW => rstring_calls k n s _ _ W hW hx)
  have X2 := Lib.hid (fun W hW => rstring_calls k2 n2 s2 _ _ W hW hy)
  clear hx hy
  go_enter Tryz.func14, Tryz.ntmps14
  go_wp2_with (first | (go_at_call 35; (with_reducible refine (X1.out _ (T0.out.on D0.out.bel)).mono ?_); rintro e wn ⟨rfl, hb⟩; have D1 := Lib.hid ((D0.out).on hb); clear hb; have a0 := D1.out.A.cell 0 _ rfl; have a1 := D1.out.A.cell 1 _ rfl; have a2 := D1.out.A.cell 2 _ rfl; have fa0 := D1.out.A.frozen 0; have fa1 := D1.out.A.frozen 1; have fa2 := D1.out.A.frozen 2; have b0 := D1.out.B.cell 0 _ rfl; have b1 := D1.out.B.cell 1 _ rfl; have b2 := D1.out.B.cell 2 _ rfl; have fb0 := D1.out.B.frozen 0; have fb1 := D1.out.B.frozen 1; have fb2 := D1.out.B.frozen 2; have r0 := D1.out.R.cell 0 _ rfl; have r1 := D1.out.R.cell 1 _ rfl; have r2 := D1.out.R.cell 2 _ rfl; have fr0 := D1.out.R.frozen 0; have fr1 := D1.out.R.frozen 1; have fr2 := D1.out.R.frozen 2) | (go_at_call 35; (with_reducible refine (X2.out _ (T0.out.on D1.out.bel)).mono ?_); rintro e wn ⟨rfl, hb⟩; have D2 := Lib.hid ((D1.out).on hb); clear hb; have a0 := D2.out.A.cell 0 _ rfl; have a1 := D2.out.A.cell 1 _ rfl; have a2 := D2.out.A.cell 2 _ rfl; have fa0 := D2.out.A.frozen 0; have fa1 := D2.out.A.frozen 1; have fa2 := D2.out.A.frozen 2; have b0 := D2.out.B.cell 0 _ rfl; have b1 := D2.out.B.cell 1 _ rfl; have b2 := D2.out.B.cell 2 _ rfl; have fb0 := D2.out.B.frozen 0; have fb1 := D2.out.B.frozen 1; have fb2 := D2.out.B.frozen 2; have r0 := D2.out.R.cell 0 _ rfl; have r1 := D2.out.R.cell 1 _ rfl; have r2 := D2.out.R.cell 2 _ rfl; have fr0 := D2.out.R.frozen 0; have fr1 := D2.out.R.frozen 1; have fr2 := D2.out.R.frozen 2))
  refine bodyPost_ret (results_ct rfl _ _ (w.heap.size + 1 + 1) 23 #[.int .i64 0, .int .i64 0, .string ⟨#[]⟩] (0, 0) _ rfl ((D2.out).put 0 0 _).1 Tryz.underlying23 rfl (by kernel_rfl)) rfl ⟨rfl, ((D2.out).put 0 0 _).2⟩
set_option maxHeartbeats 8000000 in
theorem qJ4 (k n : Int) (s : ByteArray) (k2 n2 : Int) (s2 : ByteArray) (most m : Int) (x1 y1 : ByteArray) (hx : rstringF k n s = some (x1, true)) (hy : rstringF k2 n2 s2 = some (y1, true)) (hw : wrap64 ((x1.size : Int) + (y1.size : Int)) = (x1.size : Int) + (y1.size : Int)) (hm : (if 0 < most then most else 0) = m) (hl : decide (m < (x1.size : Int) + (y1.size : Int)) = false) (hz : x1.size + y1.size ≤ 9223372036854775807) (w : World) (hT : Tab w) : Calls Tryz.prog 14 #[.int .i64 11, .agg #[.int .i64 k, .int .i64 n, .string s], .agg #[.int .i64 k2, .int .i64 n2, .string s2], .int .i64 most] w fun e w' => e = .returned (.tuple #[.agg #[.int .i64 3, .int .i64 0, .string (x1 ++ y1)], .int .i64 0]) ∧ Below w.heap.size w w' := by
  have T0 := Lib.hid hT
  clear hT
  have D0 := Lib.hid (D3.start w 23 k n s k2 n2 s2)
  have X1 := Lib.hid (fun W hW => rstring_calls k n s _ _ W hW hx)
  have X2 := Lib.hid (fun W hW => rstring_calls k2 n2 s2 _ _ W hW hy)
  have hz2 : (9223372036854775807 < x1.size + y1.size) = False := eq_false (by omega)
  clear hx hy
  go_enter Tryz.func14, Tryz.ntmps14
  go_wp2_with (first | (go_at_call 35; (with_reducible refine (X1.out _ (T0.out.on D0.out.bel)).mono ?_); rintro e wn ⟨rfl, hb⟩; have D1 := Lib.hid ((D0.out).on hb); clear hb; have a0 := D1.out.A.cell 0 _ rfl; have a1 := D1.out.A.cell 1 _ rfl; have a2 := D1.out.A.cell 2 _ rfl; have fa0 := D1.out.A.frozen 0; have fa1 := D1.out.A.frozen 1; have fa2 := D1.out.A.frozen 2; have b0 := D1.out.B.cell 0 _ rfl; have b1 := D1.out.B.cell 1 _ rfl; have b2 := D1.out.B.cell 2 _ rfl; have fb0 := D1.out.B.frozen 0; have fb1 := D1.out.B.frozen 1; have fb2 := D1.out.B.frozen 2; have r0 := D1.out.R.cell 0 _ rfl; have r1 := D1.out.R.cell 1 _ rfl; have r2 := D1.out.R.cell 2 _ rfl; have fr0 := D1.out.R.frozen 0; have fr1 := D1.out.R.frozen 1; have fr2 := D1.out.R.frozen 2) | (go_at_call 35; (with_reducible refine (X2.out _ (T0.out.on D1.out.bel)).mono ?_); rintro e wn ⟨rfl, hb⟩; have D2 := Lib.hid ((D1.out).on hb); clear hb; have a0 := D2.out.A.cell 0 _ rfl; have a1 := D2.out.A.cell 1 _ rfl; have a2 := D2.out.A.cell 2 _ rfl; have fa0 := D2.out.A.frozen 0; have fa1 := D2.out.A.frozen 1; have fa2 := D2.out.A.frozen 2; have b0 := D2.out.B.cell 0 _ rfl; have b1 := D2.out.B.cell 1 _ rfl; have b2 := D2.out.B.cell 2 _ rfl; have fb0 := D2.out.B.frozen 0; have fb1 := D2.out.B.frozen 1; have fb2 := D2.out.B.frozen 2; have r0 := D2.out.R.cell 0 _ rfl; have r1 := D2.out.R.cell 1 _ rfl; have r2 := D2.out.R.cell 2 _ rfl; have fr0 := D2.out.R.frozen 0; have fr1 := D2.out.R.frozen 1; have fr2 := D2.out.R.frozen 2))
  refine bodyPost_ret (results_ct rfl _ _ (w.heap.size + 1 + 1) 23 #[.int .i64 3, .int .i64 0, .string (x1 ++ y1)] (0, 0) _ rfl ((D2.out).put 3 0 _).1 Tryz.underlying23 rfl (by kernel_rfl)) rfl ⟨rfl, ((D2.out).put 3 0 _).2⟩
set_option maxHeartbeats 8000000 in
theorem q12 (k n : Int) (s : ByteArray) (k2 n2 : Int) (s2 : ByteArray) (most : Int) (b : Bool) (bi : Bool → Int) (hbi : ∀ b, (if b = true then 1 else 0) = bi b) (hr : rawB k n s k2 n2 s2 = b) (w : World) (hT : Tab w) : Calls Tryz.prog 14 #[.int .i64 12, .agg #[.int .i64 k, .int .i64 n, .string s], .agg #[.int .i64 k2, .int .i64 n2, .string s2], .int .i64 most] w fun e w' => e = .returned (.tuple #[.agg #[.int .i64 1, .int .i64 (bi (b)), .string ⟨#[]⟩], .int .i64 0]) ∧ Below w.heap.size w w' := by
  have T0 := Lib.hid hT
  clear hT
  have D0 := Lib.hid (D3.start w 23 k n s k2 n2 s2)
  have HT := Lib.hid (fun b W => rtruth11_calls bi hbi b W)
  have HR := Lib.hid (fun W => rraw_calls k n s k2 n2 s2 b W (by unfold rrawF; rw [hr]))
  clear hr
  clear hbi
  go_enter Tryz.func14, Tryz.ntmps14
  go_wp2_with (first | (go_at_call 37; (with_reducible refine (HR.out _).mono ?_); rintro e wn ⟨rfl, hb⟩; have D1 := Lib.hid ((D0.out).on hb); clear hb; have a0 := D1.out.A.cell 0 _ rfl; have a1 := D1.out.A.cell 1 _ rfl; have a2 := D1.out.A.cell 2 _ rfl; have fa0 := D1.out.A.frozen 0; have fa1 := D1.out.A.frozen 1; have fa2 := D1.out.A.frozen 2; have b0 := D1.out.B.cell 0 _ rfl; have b1 := D1.out.B.cell 1 _ rfl; have b2 := D1.out.B.cell 2 _ rfl; have fb0 := D1.out.B.frozen 0; have fb1 := D1.out.B.frozen 1; have fb2 := D1.out.B.frozen 2; have r0 := D1.out.R.cell 0 _ rfl; have r1 := D1.out.R.cell 1 _ rfl; have r2 := D1.out.R.cell 2 _ rfl; have fr0 := D1.out.R.frozen 0; have fr1 := D1.out.R.frozen 1; have fr2 := D1.out.R.frozen 2) | (go_at_call 36; (with_reducible refine (HT.out _ _).mono ?_); rintro e wn ⟨rfl, hb⟩; have D2 := Lib.hid ((D1.out).on hb); clear hb; have a0 := D2.out.A.cell 0 _ rfl; have a1 := D2.out.A.cell 1 _ rfl; have a2 := D2.out.A.cell 2 _ rfl; have fa0 := D2.out.A.frozen 0; have fa1 := D2.out.A.frozen 1; have fa2 := D2.out.A.frozen 2; have b0 := D2.out.B.cell 0 _ rfl; have b1 := D2.out.B.cell 1 _ rfl; have b2 := D2.out.B.cell 2 _ rfl; have fb0 := D2.out.B.frozen 0; have fb1 := D2.out.B.frozen 1; have fb2 := D2.out.B.frozen 2; have r0 := D2.out.R.cell 0 _ rfl; have r1 := D2.out.R.cell 1 _ rfl; have r2 := D2.out.R.cell 2 _ rfl; have fr0 := D2.out.R.frozen 0; have fr1 := D2.out.R.frozen 1; have fr2 := D2.out.R.frozen 2))
  refine bodyPost_ret (results_ct rfl _ _ (w.heap.size + 1 + 1) 23 #[.int .i64 1, .int .i64 _, .string ⟨#[]⟩] (0, 0) _ rfl ((D2.out).put 1 _ _).1 Tryz.underlying23 rfl (by kernel_rfl)) rfl ⟨rfl, ((D2.out).put 1 _ _).2⟩
set_option maxHeartbeats 8000000 in
theorem q13 (k n : Int) (s : ByteArray) (k2 n2 : Int) (s2 : ByteArray) (most : Int) (b : Bool) (bi : Bool → Int) (hbi : ∀ b, (if b = true then 1 else 0) = bi b) (hr : rawB k n s k2 n2 s2 = b) (w : World) (hT : Tab w) : Calls Tryz.prog 14 #[.int .i64 13, .agg #[.int .i64 k, .int .i64 n, .string s], .agg #[.int .i64 k2, .int .i64 n2, .string s2], .int .i64 most] w fun e w' => e = .returned (.tuple #[.agg #[.int .i64 1, .int .i64 (bi (!b)), .string ⟨#[]⟩], .int .i64 0]) ∧ Below w.heap.size w w' := by
  have T0 := Lib.hid hT
  clear hT
  have D0 := Lib.hid (D3.start w 23 k n s k2 n2 s2)
  have HT := Lib.hid (fun b W => rtruth11_calls bi hbi b W)
  have HR := Lib.hid (fun W => rraw_calls k n s k2 n2 s2 b W (by unfold rrawF; rw [hr]))
  clear hr
  clear hbi
  go_enter Tryz.func14, Tryz.ntmps14
  go_wp2_with (first | (go_at_call 37; (with_reducible refine (HR.out _).mono ?_); rintro e wn ⟨rfl, hb⟩; have D1 := Lib.hid ((D0.out).on hb); clear hb; have a0 := D1.out.A.cell 0 _ rfl; have a1 := D1.out.A.cell 1 _ rfl; have a2 := D1.out.A.cell 2 _ rfl; have fa0 := D1.out.A.frozen 0; have fa1 := D1.out.A.frozen 1; have fa2 := D1.out.A.frozen 2; have b0 := D1.out.B.cell 0 _ rfl; have b1 := D1.out.B.cell 1 _ rfl; have b2 := D1.out.B.cell 2 _ rfl; have fb0 := D1.out.B.frozen 0; have fb1 := D1.out.B.frozen 1; have fb2 := D1.out.B.frozen 2; have r0 := D1.out.R.cell 0 _ rfl; have r1 := D1.out.R.cell 1 _ rfl; have r2 := D1.out.R.cell 2 _ rfl; have fr0 := D1.out.R.frozen 0; have fr1 := D1.out.R.frozen 1; have fr2 := D1.out.R.frozen 2) | (go_at_call 36; (with_reducible refine (HT.out _ _).mono ?_); rintro e wn ⟨rfl, hb⟩; have D2 := Lib.hid ((D1.out).on hb); clear hb; have a0 := D2.out.A.cell 0 _ rfl; have a1 := D2.out.A.cell 1 _ rfl; have a2 := D2.out.A.cell 2 _ rfl; have fa0 := D2.out.A.frozen 0; have fa1 := D2.out.A.frozen 1; have fa2 := D2.out.A.frozen 2; have b0 := D2.out.B.cell 0 _ rfl; have b1 := D2.out.B.cell 1 _ rfl; have b2 := D2.out.B.cell 2 _ rfl; have fb0 := D2.out.B.frozen 0; have fb1 := D2.out.B.frozen 1; have fb2 := D2.out.B.frozen 2; have r0 := D2.out.R.cell 0 _ rfl; have r1 := D2.out.R.cell 1 _ rfl; have r2 := D2.out.R.cell 2 _ rfl; have fr0 := D2.out.R.frozen 0; have fr1 := D2.out.R.frozen 1; have fr2 := D2.out.R.frozen 2))
  refine bodyPost_ret (results_ct rfl _ _ (w.heap.size + 1 + 1) 23 #[.int .i64 1, .int .i64 _, .string ⟨#[]⟩] (0, 0) _ rfl ((D2.out).put 1 _ _).1 Tryz.underlying23 rfl (by kernel_rfl)) rfl ⟨rfl, ((D2.out).put 1 _ _).2⟩
set_option maxHeartbeats 8000000 in
theorem q14n (k n : Int) (s : ByteArray) (k2 n2 : Int) (s2 : ByteArray) (most : Int) (x y z : Bool) (hl : rlessF k n s k2 n2 s2 = some (x, false)) (hg : rlessF k2 n2 s2 k n s = some (y, z)) (w : World) (hT : Tab w) : Calls Tryz.prog 14 #[.int .i64 14, .agg #[.int .i64 k, .int .i64 n, .string s], .agg #[.int .i64 k2, .int .i64 n2, .string s2], .int .i64 most] w fun e w' => e = .returned (.tuple #[.agg #[.int .i64 0, .int .i64 0, .string ⟨#[]⟩], .int .i64 18]) ∧ Below w.heap.size w w' := by
  have T0 := Lib.hid hT
  clear hT
  have D0 := Lib.hid (D3.start w 23 k n s k2 n2 s2)
  have L1 := Lib.hid (fun W => rless_calls k n s k2 n2 s2 _ _ W hl)
  have L2 := Lib.hid (fun W => rless_calls k2 n2 s2 k n s _ _ W hg)
  clear hl hg
  go_enter Tryz.func14, Tryz.ntmps14
  go_wp2_with (first | (go_at_call 38; (with_reducible refine (L1.out _).mono ?_); rintro e wn ⟨rfl, hb⟩; have D1 := Lib.hid ((D0.out).on hb); clear hb; have a0 := D1.out.A.cell 0 _ rfl; have a1 := D1.out.A.cell 1 _ rfl; have a2 := D1.out.A.cell 2 _ rfl; have fa0 := D1.out.A.frozen 0; have fa1 := D1.out.A.frozen 1; have fa2 := D1.out.A.frozen 2; have b0 := D1.out.B.cell 0 _ rfl; have b1 := D1.out.B.cell 1 _ rfl; have b2 := D1.out.B.cell 2 _ rfl; have fb0 := D1.out.B.frozen 0; have fb1 := D1.out.B.frozen 1; have fb2 := D1.out.B.frozen 2; have r0 := D1.out.R.cell 0 _ rfl; have r1 := D1.out.R.cell 1 _ rfl; have r2 := D1.out.R.cell 2 _ rfl; have fr0 := D1.out.R.frozen 0; have fr1 := D1.out.R.frozen 1; have fr2 := D1.out.R.frozen 2) | (go_at_call 38; (with_reducible refine (L2.out _).mono ?_); rintro e wn ⟨rfl, hb⟩; have D2 := Lib.hid ((D1.out).on hb); clear hb; have a0 := D2.out.A.cell 0 _ rfl; have a1 := D2.out.A.cell 1 _ rfl; have a2 := D2.out.A.cell 2 _ rfl; have fa0 := D2.out.A.frozen 0; have fa1 := D2.out.A.frozen 1; have fa2 := D2.out.A.frozen 2; have b0 := D2.out.B.cell 0 _ rfl; have b1 := D2.out.B.cell 1 _ rfl; have b2 := D2.out.B.cell 2 _ rfl; have fb0 := D2.out.B.frozen 0; have fb1 := D2.out.B.frozen 1; have fb2 := D2.out.B.frozen 2; have r0 := D2.out.R.cell 0 _ rfl; have r1 := D2.out.R.cell 1 _ rfl; have r2 := D2.out.R.cell 2 _ rfl; have fr0 := D2.out.R.frozen 0; have fr1 := D2.out.R.frozen 1; have fr2 := D2.out.R.frozen 2))
  refine bodyPost_ret (results_ct rfl _ _ (w.heap.size + 1 + 1) 23 #[.int .i64 0, .int .i64 0, .string ⟨#[]⟩] (0, 0) _ rfl ((D2.out).put 0 0 _).1 Tryz.underlying23 rfl (by kernel_rfl)) rfl ⟨rfl, ((D2.out).put 0 0 _).2⟩
set_option maxHeartbeats 8000000 in
theorem q14 (k n : Int) (s : ByteArray) (k2 n2 : Int) (s2 : ByteArray) (most : Int) (x y z : Bool) (hl : rlessF k n s k2 n2 s2 = some (x, true)) (hg : rlessF k2 n2 s2 k n s = some (y, z)) (bi : Bool → Int) (hbi : ∀ b, (if b = true then 1 else 0) = bi b) (w : World) (hT : Tab w) : Calls Tryz.prog 14 #[.int .i64 14, .agg #[.int .i64 k, .int .i64 n, .string s], .agg #[.int .i64 k2, .int .i64 n2, .string s2], .int .i64 most] w fun e w' => e = .returned (.tuple #[.agg #[.int .i64 1, .int .i64 (bi (x)), .string ⟨#[]⟩], .int .i64 0]) ∧ Below w.heap.size w w' := by
  have T0 := Lib.hid hT
  clear hT
  have D0 := Lib.hid (D3.start w 23 k n s k2 n2 s2)
  have L1 := Lib.hid (fun W => rless_calls k n s k2 n2 s2 _ _ W hl)
  have L2 := Lib.hid (fun W => rless_calls k2 n2 s2 k n s _ _ W hg)
  have HT := Lib.hid (fun b W => rtruth11_calls bi hbi b W)
  have IX : ∀ W, (Instr.index 60 (.agg #[.bool x, .bool !y, .bool y, .bool !x]) (.int .i64 0)).run Tryz.prog W = .ok (.bool (x)) W := fun W => by cases x <;> cases y <;> kernel_rfl
  clear hl hg hbi
  go_enter Tryz.func14, Tryz.ntmps14
  go_wp2_with (first | (go_at_call 38; (with_reducible refine (L1.out _).mono ?_); rintro e wn ⟨rfl, hb⟩; have D1 := Lib.hid ((D0.out).on hb); clear hb; have a0 := D1.out.A.cell 0 _ rfl; have a1 := D1.out.A.cell 1 _ rfl; have a2 := D1.out.A.cell 2 _ rfl; have fa0 := D1.out.A.frozen 0; have fa1 := D1.out.A.frozen 1; have fa2 := D1.out.A.frozen 2; have b0 := D1.out.B.cell 0 _ rfl; have b1 := D1.out.B.cell 1 _ rfl; have b2 := D1.out.B.cell 2 _ rfl; have fb0 := D1.out.B.frozen 0; have fb1 := D1.out.B.frozen 1; have fb2 := D1.out.B.frozen 2; have r0 := D1.out.R.cell 0 _ rfl; have r1 := D1.out.R.cell 1 _ rfl; have r2 := D1.out.R.cell 2 _ rfl; have fr0 := D1.out.R.frozen 0; have fr1 := D1.out.R.frozen 1; have fr2 := D1.out.R.frozen 2) | (go_at_call 38; (with_reducible refine (L2.out _).mono ?_); rintro e wn ⟨rfl, hb⟩; have D2 := Lib.hid ((D1.out).on hb); clear hb; have a0 := D2.out.A.cell 0 _ rfl; have a1 := D2.out.A.cell 1 _ rfl; have a2 := D2.out.A.cell 2 _ rfl; have fa0 := D2.out.A.frozen 0; have fa1 := D2.out.A.frozen 1; have fa2 := D2.out.A.frozen 2; have b0 := D2.out.B.cell 0 _ rfl; have b1 := D2.out.B.cell 1 _ rfl; have b2 := D2.out.B.cell 2 _ rfl; have fb0 := D2.out.B.frozen 0; have fb1 := D2.out.B.frozen 1; have fb2 := D2.out.B.frozen 2; have r0 := D2.out.R.cell 0 _ rfl; have r1 := D2.out.R.cell 1 _ rfl; have r2 := D2.out.R.cell 2 _ rfl; have fr0 := D2.out.R.frozen 0; have fr1 := D2.out.R.frozen 1; have fr2 := D2.out.R.frozen 2) | (go_at_call 36; (with_reducible refine (HT.out _ _).mono ?_); rintro e wn ⟨rfl, hb⟩; have D3 := Lib.hid ((D2.out).on hb); clear hb; have a0 := D3.out.A.cell 0 _ rfl; have a1 := D3.out.A.cell 1 _ rfl; have a2 := D3.out.A.cell 2 _ rfl; have fa0 := D3.out.A.frozen 0; have fa1 := D3.out.A.frozen 1; have fa2 := D3.out.A.frozen 2; have b0 := D3.out.B.cell 0 _ rfl; have b1 := D3.out.B.cell 1 _ rfl; have b2 := D3.out.B.cell 2 _ rfl; have fb0 := D3.out.B.frozen 0; have fb1 := D3.out.B.frozen 1; have fb2 := D3.out.B.frozen 2; have r0 := D3.out.R.cell 0 _ rfl; have r1 := D3.out.R.cell 1 _ rfl; have r2 := D3.out.R.cell 2 _ rfl; have fr0 := D3.out.R.frozen 0; have fr1 := D3.out.R.frozen 1; have fr2 := D3.out.R.frozen 2))
  refine bodyPost_ret (results_ct rfl _ _ (w.heap.size + 1 + 1) 23 #[.int .i64 1, .int .i64 _, .string ⟨#[]⟩] (0, 0) _ rfl ((D3.out).put 1 _ _).1 Tryz.underlying23 rfl (by kernel_rfl)) rfl ⟨rfl, ((D3.out).put 1 _ _).2⟩
set_option maxHeartbeats 8000000 in
theorem q15n (k n : Int) (s : ByteArray) (k2 n2 : Int) (s2 : ByteArray) (most : Int) (x y z : Bool) (hl : rlessF k n s k2 n2 s2 = some (x, false)) (hg : rlessF k2 n2 s2 k n s = some (y, z)) (w : World) (hT : Tab w) : Calls Tryz.prog 14 #[.int .i64 15, .agg #[.int .i64 k, .int .i64 n, .string s], .agg #[.int .i64 k2, .int .i64 n2, .string s2], .int .i64 most] w fun e w' => e = .returned (.tuple #[.agg #[.int .i64 0, .int .i64 0, .string ⟨#[]⟩], .int .i64 18]) ∧ Below w.heap.size w w' := by
  have T0 := Lib.hid hT
  clear hT
  have D0 := Lib.hid (D3.start w 23 k n s k2 n2 s2)
  have L1 := Lib.hid (fun W => rless_calls k n s k2 n2 s2 _ _ W hl)
  have L2 := Lib.hid (fun W => rless_calls k2 n2 s2 k n s _ _ W hg)
  clear hl hg
  go_enter Tryz.func14, Tryz.ntmps14
  go_wp2_with (first | (go_at_call 38; (with_reducible refine (L1.out _).mono ?_); rintro e wn ⟨rfl, hb⟩; have D1 := Lib.hid ((D0.out).on hb); clear hb; have a0 := D1.out.A.cell 0 _ rfl; have a1 := D1.out.A.cell 1 _ rfl; have a2 := D1.out.A.cell 2 _ rfl; have fa0 := D1.out.A.frozen 0; have fa1 := D1.out.A.frozen 1; have fa2 := D1.out.A.frozen 2; have b0 := D1.out.B.cell 0 _ rfl; have b1 := D1.out.B.cell 1 _ rfl; have b2 := D1.out.B.cell 2 _ rfl; have fb0 := D1.out.B.frozen 0; have fb1 := D1.out.B.frozen 1; have fb2 := D1.out.B.frozen 2; have r0 := D1.out.R.cell 0 _ rfl; have r1 := D1.out.R.cell 1 _ rfl; have r2 := D1.out.R.cell 2 _ rfl; have fr0 := D1.out.R.frozen 0; have fr1 := D1.out.R.frozen 1; have fr2 := D1.out.R.frozen 2) | (go_at_call 38; (with_reducible refine (L2.out _).mono ?_); rintro e wn ⟨rfl, hb⟩; have D2 := Lib.hid ((D1.out).on hb); clear hb; have a0 := D2.out.A.cell 0 _ rfl; have a1 := D2.out.A.cell 1 _ rfl; have a2 := D2.out.A.cell 2 _ rfl; have fa0 := D2.out.A.frozen 0; have fa1 := D2.out.A.frozen 1; have fa2 := D2.out.A.frozen 2; have b0 := D2.out.B.cell 0 _ rfl; have b1 := D2.out.B.cell 1 _ rfl; have b2 := D2.out.B.cell 2 _ rfl; have fb0 := D2.out.B.frozen 0; have fb1 := D2.out.B.frozen 1; have fb2 := D2.out.B.frozen 2; have r0 := D2.out.R.cell 0 _ rfl; have r1 := D2.out.R.cell 1 _ rfl; have r2 := D2.out.R.cell 2 _ rfl; have fr0 := D2.out.R.frozen 0; have fr1 := D2.out.R.frozen 1; have fr2 := D2.out.R.frozen 2))
  refine bodyPost_ret (results_ct rfl _ _ (w.heap.size + 1 + 1) 23 #[.int .i64 0, .int .i64 0, .string ⟨#[]⟩] (0, 0) _ rfl ((D2.out).put 0 0 _).1 Tryz.underlying23 rfl (by kernel_rfl)) rfl ⟨rfl, ((D2.out).put 0 0 _).2⟩
set_option maxHeartbeats 8000000 in
theorem q15 (k n : Int) (s : ByteArray) (k2 n2 : Int) (s2 : ByteArray) (most : Int) (x y z : Bool) (hl : rlessF k n s k2 n2 s2 = some (x, true)) (hg : rlessF k2 n2 s2 k n s = some (y, z)) (bi : Bool → Int) (hbi : ∀ b, (if b = true then 1 else 0) = bi b) (w : World) (hT : Tab w) : Calls Tryz.prog 14 #[.int .i64 15, .agg #[.int .i64 k, .int .i64 n, .string s], .agg #[.int .i64 k2, .int .i64 n2, .string s2], .int .i64 most] w fun e w' => e = .returned (.tuple #[.agg #[.int .i64 1, .int .i64 (bi (!y)), .string ⟨#[]⟩], .int .i64 0]) ∧ Below w.heap.size w w' := by
  have T0 := Lib.hid hT
  clear hT
  have D0 := Lib.hid (D3.start w 23 k n s k2 n2 s2)
  have L1 := Lib.hid (fun W => rless_calls k n s k2 n2 s2 _ _ W hl)
  have L2 := Lib.hid (fun W => rless_calls k2 n2 s2 k n s _ _ W hg)
  have HT := Lib.hid (fun b W => rtruth11_calls bi hbi b W)
  have IX : ∀ W, (Instr.index 60 (.agg #[.bool x, .bool !y, .bool y, .bool !x]) (.int .i64 1)).run Tryz.prog W = .ok (.bool (!y)) W := fun W => by cases x <;> cases y <;> kernel_rfl
  clear hl hg hbi
  go_enter Tryz.func14, Tryz.ntmps14
  go_wp2_with (first | (go_at_call 38; (with_reducible refine (L1.out _).mono ?_); rintro e wn ⟨rfl, hb⟩; have D1 := Lib.hid ((D0.out).on hb); clear hb; have a0 := D1.out.A.cell 0 _ rfl; have a1 := D1.out.A.cell 1 _ rfl; have a2 := D1.out.A.cell 2 _ rfl; have fa0 := D1.out.A.frozen 0; have fa1 := D1.out.A.frozen 1; have fa2 := D1.out.A.frozen 2; have b0 := D1.out.B.cell 0 _ rfl; have b1 := D1.out.B.cell 1 _ rfl; have b2 := D1.out.B.cell 2 _ rfl; have fb0 := D1.out.B.frozen 0; have fb1 := D1.out.B.frozen 1; have fb2 := D1.out.B.frozen 2; have r0 := D1.out.R.cell 0 _ rfl; have r1 := D1.out.R.cell 1 _ rfl; have r2 := D1.out.R.cell 2 _ rfl; have fr0 := D1.out.R.frozen 0; have fr1 := D1.out.R.frozen 1; have fr2 := D1.out.R.frozen 2) | (go_at_call 38; (with_reducible refine (L2.out _).mono ?_); rintro e wn ⟨rfl, hb⟩; have D2 := Lib.hid ((D1.out).on hb); clear hb; have a0 := D2.out.A.cell 0 _ rfl; have a1 := D2.out.A.cell 1 _ rfl; have a2 := D2.out.A.cell 2 _ rfl; have fa0 := D2.out.A.frozen 0; have fa1 := D2.out.A.frozen 1; have fa2 := D2.out.A.frozen 2; have b0 := D2.out.B.cell 0 _ rfl; have b1 := D2.out.B.cell 1 _ rfl; have b2 := D2.out.B.cell 2 _ rfl; have fb0 := D2.out.B.frozen 0; have fb1 := D2.out.B.frozen 1; have fb2 := D2.out.B.frozen 2; have r0 := D2.out.R.cell 0 _ rfl; have r1 := D2.out.R.cell 1 _ rfl; have r2 := D2.out.R.cell 2 _ rfl; have fr0 := D2.out.R.frozen 0; have fr1 := D2.out.R.frozen 1; have fr2 := D2.out.R.frozen 2) | (go_at_call 36; (with_reducible refine (HT.out _ _).mono ?_); rintro e wn ⟨rfl, hb⟩; have D3 := Lib.hid ((D2.out).on hb); clear hb; have a0 := D3.out.A.cell 0 _ rfl; have a1 := D3.out.A.cell 1 _ rfl; have a2 := D3.out.A.cell 2 _ rfl; have fa0 := D3.out.A.frozen 0; have fa1 := D3.out.A.frozen 1; have fa2 := D3.out.A.frozen 2; have b0 := D3.out.B.cell 0 _ rfl; have b1 := D3.out.B.cell 1 _ rfl; have b2 := D3.out.B.cell 2 _ rfl; have fb0 := D3.out.B.frozen 0; have fb1 := D3.out.B.frozen 1; have fb2 := D3.out.B.frozen 2; have r0 := D3.out.R.cell 0 _ rfl; have r1 := D3.out.R.cell 1 _ rfl; have r2 := D3.out.R.cell 2 _ rfl; have fr0 := D3.out.R.frozen 0; have fr1 := D3.out.R.frozen 1; have fr2 := D3.out.R.frozen 2))
  refine bodyPost_ret (results_ct rfl _ _ (w.heap.size + 1 + 1) 23 #[.int .i64 1, .int .i64 _, .string ⟨#[]⟩] (0, 0) _ rfl ((D3.out).put 1 _ _).1 Tryz.underlying23 rfl (by kernel_rfl)) rfl ⟨rfl, ((D3.out).put 1 _ _).2⟩
set_option maxHeartbeats 8000000 in
theorem q16n (k n : Int) (s : ByteArray) (k2 n2 : Int) (s2 : ByteArray) (most : Int) (x y z : Bool) (hl : rlessF k n s k2 n2 s2 = some (x, false)) (hg : rlessF k2 n2 s2 k n s = some (y, z)) (w : World) (hT : Tab w) : Calls Tryz.prog 14 #[.int .i64 16, .agg #[.int .i64 k, .int .i64 n, .string s], .agg #[.int .i64 k2, .int .i64 n2, .string s2], .int .i64 most] w fun e w' => e = .returned (.tuple #[.agg #[.int .i64 0, .int .i64 0, .string ⟨#[]⟩], .int .i64 18]) ∧ Below w.heap.size w w' := by
  have T0 := Lib.hid hT
  clear hT
  have D0 := Lib.hid (D3.start w 23 k n s k2 n2 s2)
  have L1 := Lib.hid (fun W => rless_calls k n s k2 n2 s2 _ _ W hl)
  have L2 := Lib.hid (fun W => rless_calls k2 n2 s2 k n s _ _ W hg)
  clear hl hg
  go_enter Tryz.func14, Tryz.ntmps14
  go_wp2_with (first | (go_at_call 38; (with_reducible refine (L1.out _).mono ?_); rintro e wn ⟨rfl, hb⟩; have D1 := Lib.hid ((D0.out).on hb); clear hb; have a0 := D1.out.A.cell 0 _ rfl; have a1 := D1.out.A.cell 1 _ rfl; have a2 := D1.out.A.cell 2 _ rfl; have fa0 := D1.out.A.frozen 0; have fa1 := D1.out.A.frozen 1; have fa2 := D1.out.A.frozen 2; have b0 := D1.out.B.cell 0 _ rfl; have b1 := D1.out.B.cell 1 _ rfl; have b2 := D1.out.B.cell 2 _ rfl; have fb0 := D1.out.B.frozen 0; have fb1 := D1.out.B.frozen 1; have fb2 := D1.out.B.frozen 2; have r0 := D1.out.R.cell 0 _ rfl; have r1 := D1.out.R.cell 1 _ rfl; have r2 := D1.out.R.cell 2 _ rfl; have fr0 := D1.out.R.frozen 0; have fr1 := D1.out.R.frozen 1; have fr2 := D1.out.R.frozen 2) | (go_at_call 38; (with_reducible refine (L2.out _).mono ?_); rintro e wn ⟨rfl, hb⟩; have D2 := Lib.hid ((D1.out).on hb); clear hb; have a0 := D2.out.A.cell 0 _ rfl; have a1 := D2.out.A.cell 1 _ rfl; have a2 := D2.out.A.cell 2 _ rfl; have fa0 := D2.out.A.frozen 0; have fa1 := D2.out.A.frozen 1; have fa2 := D2.out.A.frozen 2; have b0 := D2.out.B.cell 0 _ rfl; have b1 := D2.out.B.cell 1 _ rfl; have b2 := D2.out.B.cell 2 _ rfl; have fb0 := D2.out.B.frozen 0; have fb1 := D2.out.B.frozen 1; have fb2 := D2.out.B.frozen 2; have r0 := D2.out.R.cell 0 _ rfl; have r1 := D2.out.R.cell 1 _ rfl; have r2 := D2.out.R.cell 2 _ rfl; have fr0 := D2.out.R.frozen 0; have fr1 := D2.out.R.frozen 1; have fr2 := D2.out.R.frozen 2))
  refine bodyPost_ret (results_ct rfl _ _ (w.heap.size + 1 + 1) 23 #[.int .i64 0, .int .i64 0, .string ⟨#[]⟩] (0, 0) _ rfl ((D2.out).put 0 0 _).1 Tryz.underlying23 rfl (by kernel_rfl)) rfl ⟨rfl, ((D2.out).put 0 0 _).2⟩
set_option maxHeartbeats 8000000 in
theorem q16 (k n : Int) (s : ByteArray) (k2 n2 : Int) (s2 : ByteArray) (most : Int) (x y z : Bool) (hl : rlessF k n s k2 n2 s2 = some (x, true)) (hg : rlessF k2 n2 s2 k n s = some (y, z)) (bi : Bool → Int) (hbi : ∀ b, (if b = true then 1 else 0) = bi b) (w : World) (hT : Tab w) : Calls Tryz.prog 14 #[.int .i64 16, .agg #[.int .i64 k, .int .i64 n, .string s], .agg #[.int .i64 k2, .int .i64 n2, .string s2], .int .i64 most] w fun e w' => e = .returned (.tuple #[.agg #[.int .i64 1, .int .i64 (bi (y)), .string ⟨#[]⟩], .int .i64 0]) ∧ Below w.heap.size w w' := by
  have T0 := Lib.hid hT
  clear hT
  have D0 := Lib.hid (D3.start w 23 k n s k2 n2 s2)
  have L1 := Lib.hid (fun W => rless_calls k n s k2 n2 s2 _ _ W hl)
  have L2 := Lib.hid (fun W => rless_calls k2 n2 s2 k n s _ _ W hg)
  have HT := Lib.hid (fun b W => rtruth11_calls bi hbi b W)
  have IX : ∀ W, (Instr.index 60 (.agg #[.bool x, .bool !y, .bool y, .bool !x]) (.int .i64 2)).run Tryz.prog W = .ok (.bool (y)) W := fun W => by cases x <;> cases y <;> kernel_rfl
  clear hl hg hbi
  go_enter Tryz.func14, Tryz.ntmps14
  go_wp2_with (first | (go_at_call 38; (with_reducible refine (L1.out _).mono ?_); rintro e wn ⟨rfl, hb⟩; have D1 := Lib.hid ((D0.out).on hb); clear hb; have a0 := D1.out.A.cell 0 _ rfl; have a1 := D1.out.A.cell 1 _ rfl; have a2 := D1.out.A.cell 2 _ rfl; have fa0 := D1.out.A.frozen 0; have fa1 := D1.out.A.frozen 1; have fa2 := D1.out.A.frozen 2; have b0 := D1.out.B.cell 0 _ rfl; have b1 := D1.out.B.cell 1 _ rfl; have b2 := D1.out.B.cell 2 _ rfl; have fb0 := D1.out.B.frozen 0; have fb1 := D1.out.B.frozen 1; have fb2 := D1.out.B.frozen 2; have r0 := D1.out.R.cell 0 _ rfl; have r1 := D1.out.R.cell 1 _ rfl; have r2 := D1.out.R.cell 2 _ rfl; have fr0 := D1.out.R.frozen 0; have fr1 := D1.out.R.frozen 1; have fr2 := D1.out.R.frozen 2) | (go_at_call 38; (with_reducible refine (L2.out _).mono ?_); rintro e wn ⟨rfl, hb⟩; have D2 := Lib.hid ((D1.out).on hb); clear hb; have a0 := D2.out.A.cell 0 _ rfl; have a1 := D2.out.A.cell 1 _ rfl; have a2 := D2.out.A.cell 2 _ rfl; have fa0 := D2.out.A.frozen 0; have fa1 := D2.out.A.frozen 1; have fa2 := D2.out.A.frozen 2; have b0 := D2.out.B.cell 0 _ rfl; have b1 := D2.out.B.cell 1 _ rfl; have b2 := D2.out.B.cell 2 _ rfl; have fb0 := D2.out.B.frozen 0; have fb1 := D2.out.B.frozen 1; have fb2 := D2.out.B.frozen 2; have r0 := D2.out.R.cell 0 _ rfl; have r1 := D2.out.R.cell 1 _ rfl; have r2 := D2.out.R.cell 2 _ rfl; have fr0 := D2.out.R.frozen 0; have fr1 := D2.out.R.frozen 1; have fr2 := D2.out.R.frozen 2) | (go_at_call 36; (with_reducible refine (HT.out _ _).mono ?_); rintro e wn ⟨rfl, hb⟩; have D3 := Lib.hid ((D2.out).on hb); clear hb; have a0 := D3.out.A.cell 0 _ rfl; have a1 := D3.out.A.cell 1 _ rfl; have a2 := D3.out.A.cell 2 _ rfl; have fa0 := D3.out.A.frozen 0; have fa1 := D3.out.A.frozen 1; have fa2 := D3.out.A.frozen 2; have b0 := D3.out.B.cell 0 _ rfl; have b1 := D3.out.B.cell 1 _ rfl; have b2 := D3.out.B.cell 2 _ rfl; have fb0 := D3.out.B.frozen 0; have fb1 := D3.out.B.frozen 1; have fb2 := D3.out.B.frozen 2; have r0 := D3.out.R.cell 0 _ rfl; have r1 := D3.out.R.cell 1 _ rfl; have r2 := D3.out.R.cell 2 _ rfl; have fr0 := D3.out.R.frozen 0; have fr1 := D3.out.R.frozen 1; have fr2 := D3.out.R.frozen 2))
  refine bodyPost_ret (results_ct rfl _ _ (w.heap.size + 1 + 1) 23 #[.int .i64 1, .int .i64 _, .string ⟨#[]⟩] (0, 0) _ rfl ((D3.out).put 1 _ _).1 Tryz.underlying23 rfl (by kernel_rfl)) rfl ⟨rfl, ((D3.out).put 1 _ _).2⟩
set_option maxHeartbeats 8000000 in
theorem q17n (k n : Int) (s : ByteArray) (k2 n2 : Int) (s2 : ByteArray) (most : Int) (x y z : Bool) (hl : rlessF k n s k2 n2 s2 = some (x, false)) (hg : rlessF k2 n2 s2 k n s = some (y, z)) (w : World) (hT : Tab w) : Calls Tryz.prog 14 #[.int .i64 17, .agg #[.int .i64 k, .int .i64 n, .string s], .agg #[.int .i64 k2, .int .i64 n2, .string s2], .int .i64 most] w fun e w' => e = .returned (.tuple #[.agg #[.int .i64 0, .int .i64 0, .string ⟨#[]⟩], .int .i64 18]) ∧ Below w.heap.size w w' := by
  have T0 := Lib.hid hT
  clear hT
  have D0 := Lib.hid (D3.start w 23 k n s k2 n2 s2)
  have L1 := Lib.hid (fun W => rless_calls k n s k2 n2 s2 _ _ W hl)
  have L2 := Lib.hid (fun W => rless_calls k2 n2 s2 k n s _ _ W hg)
  clear hl hg
  go_enter Tryz.func14, Tryz.ntmps14
  go_wp2_with (first | (go_at_call 38; (with_reducible refine (L1.out _).mono ?_); rintro e wn ⟨rfl, hb⟩; have D1 := Lib.hid ((D0.out).on hb); clear hb; have a0 := D1.out.A.cell 0 _ rfl; have a1 := D1.out.A.cell 1 _ rfl; have a2 := D1.out.A.cell 2 _ rfl; have fa0 := D1.out.A.frozen 0; have fa1 := D1.out.A.frozen 1; have fa2 := D1.out.A.frozen 2; have b0 := D1.out.B.cell 0 _ rfl; have b1 := D1.out.B.cell 1 _ rfl; have b2 := D1.out.B.cell 2 _ rfl; have fb0 := D1.out.B.frozen 0; have fb1 := D1.out.B.frozen 1; have fb2 := D1.out.B.frozen 2; have r0 := D1.out.R.cell 0 _ rfl; have r1 := D1.out.R.cell 1 _ rfl; have r2 := D1.out.R.cell 2 _ rfl; have fr0 := D1.out.R.frozen 0; have fr1 := D1.out.R.frozen 1; have fr2 := D1.out.R.frozen 2) | (go_at_call 38; (with_reducible refine (L2.out _).mono ?_); rintro e wn ⟨rfl, hb⟩; have D2 := Lib.hid ((D1.out).on hb); clear hb; have a0 := D2.out.A.cell 0 _ rfl; have a1 := D2.out.A.cell 1 _ rfl; have a2 := D2.out.A.cell 2 _ rfl; have fa0 := D2.out.A.frozen 0; have fa1 := D2.out.A.frozen 1; have fa2 := D2.out.A.frozen 2; have b0 := D2.out.B.cell 0 _ rfl; have b1 := D2.out.B.cell 1 _ rfl; have b2 := D2.out.B.cell 2 _ rfl; have fb0 := D2.out.B.frozen 0; have fb1 := D2.out.B.frozen 1; have fb2 := D2.out.B.frozen 2; have r0 := D2.out.R.cell 0 _ rfl; have r1 := D2.out.R.cell 1 _ rfl; have r2 := D2.out.R.cell 2 _ rfl; have fr0 := D2.out.R.frozen 0; have fr1 := D2.out.R.frozen 1; have fr2 := D2.out.R.frozen 2))
  refine bodyPost_ret (results_ct rfl _ _ (w.heap.size + 1 + 1) 23 #[.int .i64 0, .int .i64 0, .string ⟨#[]⟩] (0, 0) _ rfl ((D2.out).put 0 0 _).1 Tryz.underlying23 rfl (by kernel_rfl)) rfl ⟨rfl, ((D2.out).put 0 0 _).2⟩
set_option maxHeartbeats 8000000 in
theorem q17 (k n : Int) (s : ByteArray) (k2 n2 : Int) (s2 : ByteArray) (most : Int) (x y z : Bool) (hl : rlessF k n s k2 n2 s2 = some (x, true)) (hg : rlessF k2 n2 s2 k n s = some (y, z)) (bi : Bool → Int) (hbi : ∀ b, (if b = true then 1 else 0) = bi b) (w : World) (hT : Tab w) : Calls Tryz.prog 14 #[.int .i64 17, .agg #[.int .i64 k, .int .i64 n, .string s], .agg #[.int .i64 k2, .int .i64 n2, .string s2], .int .i64 most] w fun e w' => e = .returned (.tuple #[.agg #[.int .i64 1, .int .i64 (bi (!x)), .string ⟨#[]⟩], .int .i64 0]) ∧ Below w.heap.size w w' := by
  have T0 := Lib.hid hT
  clear hT
  have D0 := Lib.hid (D3.start w 23 k n s k2 n2 s2)
  have L1 := Lib.hid (fun W => rless_calls k n s k2 n2 s2 _ _ W hl)
  have L2 := Lib.hid (fun W => rless_calls k2 n2 s2 k n s _ _ W hg)
  have HT := Lib.hid (fun b W => rtruth11_calls bi hbi b W)
  have IX : ∀ W, (Instr.index 60 (.agg #[.bool x, .bool !y, .bool y, .bool !x]) (.int .i64 3)).run Tryz.prog W = .ok (.bool (!x)) W := fun W => by cases x <;> cases y <;> kernel_rfl
  clear hl hg hbi
  go_enter Tryz.func14, Tryz.ntmps14
  go_wp2_with (first | (go_at_call 38; (with_reducible refine (L1.out _).mono ?_); rintro e wn ⟨rfl, hb⟩; have D1 := Lib.hid ((D0.out).on hb); clear hb; have a0 := D1.out.A.cell 0 _ rfl; have a1 := D1.out.A.cell 1 _ rfl; have a2 := D1.out.A.cell 2 _ rfl; have fa0 := D1.out.A.frozen 0; have fa1 := D1.out.A.frozen 1; have fa2 := D1.out.A.frozen 2; have b0 := D1.out.B.cell 0 _ rfl; have b1 := D1.out.B.cell 1 _ rfl; have b2 := D1.out.B.cell 2 _ rfl; have fb0 := D1.out.B.frozen 0; have fb1 := D1.out.B.frozen 1; have fb2 := D1.out.B.frozen 2; have r0 := D1.out.R.cell 0 _ rfl; have r1 := D1.out.R.cell 1 _ rfl; have r2 := D1.out.R.cell 2 _ rfl; have fr0 := D1.out.R.frozen 0; have fr1 := D1.out.R.frozen 1; have fr2 := D1.out.R.frozen 2) | (go_at_call 38; (with_reducible refine (L2.out _).mono ?_); rintro e wn ⟨rfl, hb⟩; have D2 := Lib.hid ((D1.out).on hb); clear hb; have a0 := D2.out.A.cell 0 _ rfl; have a1 := D2.out.A.cell 1 _ rfl; have a2 := D2.out.A.cell 2 _ rfl; have fa0 := D2.out.A.frozen 0; have fa1 := D2.out.A.frozen 1; have fa2 := D2.out.A.frozen 2; have b0 := D2.out.B.cell 0 _ rfl; have b1 := D2.out.B.cell 1 _ rfl; have b2 := D2.out.B.cell 2 _ rfl; have fb0 := D2.out.B.frozen 0; have fb1 := D2.out.B.frozen 1; have fb2 := D2.out.B.frozen 2; have r0 := D2.out.R.cell 0 _ rfl; have r1 := D2.out.R.cell 1 _ rfl; have r2 := D2.out.R.cell 2 _ rfl; have fr0 := D2.out.R.frozen 0; have fr1 := D2.out.R.frozen 1; have fr2 := D2.out.R.frozen 2) | (go_at_call 36; (with_reducible refine (HT.out _ _).mono ?_); rintro e wn ⟨rfl, hb⟩; have D3 := Lib.hid ((D2.out).on hb); clear hb; have a0 := D3.out.A.cell 0 _ rfl; have a1 := D3.out.A.cell 1 _ rfl; have a2 := D3.out.A.cell 2 _ rfl; have fa0 := D3.out.A.frozen 0; have fa1 := D3.out.A.frozen 1; have fa2 := D3.out.A.frozen 2; have b0 := D3.out.B.cell 0 _ rfl; have b1 := D3.out.B.cell 1 _ rfl; have b2 := D3.out.B.cell 2 _ rfl; have fb0 := D3.out.B.frozen 0; have fb1 := D3.out.B.frozen 1; have fb2 := D3.out.B.frozen 2; have r0 := D3.out.R.cell 0 _ rfl; have r1 := D3.out.R.cell 1 _ rfl; have r2 := D3.out.R.cell 2 _ rfl; have fr0 := D3.out.R.frozen 0; have fr1 := D3.out.R.frozen 1; have fr2 := D3.out.R.frozen 2))
  refine bodyPost_ret (results_ct rfl _ _ (w.heap.size + 1 + 1) 23 #[.int .i64 1, .int .i64 _, .string ⟨#[]⟩] (0, 0) _ rfl ((D3.out).put 1 _ _).1 Tryz.underlying23 rfl (by kernel_rfl)) rfl ⟨rfl, ((D3.out).put 1 _ _).2⟩
set_option maxHeartbeats 8000000 in
theorem qLol (k n : Int) (s : ByteArray) (k2 n2 : Int) (s2 : ByteArray) (op most : Int) (g1 : decide (1 ≤ op) = false) (g3 : decide (14 ≤ op) = false) (e11 : (op == 11) = false) (e12 : (op == 12) = false) (e13 : (op == 13) = false) (w : World) (hT : Tab w) : Calls Tryz.prog 14 #[.int .i64 op, .agg #[.int .i64 k, .int .i64 n, .string s], .agg #[.int .i64 k2, .int .i64 n2, .string s2], .int .i64 most] w fun e w' => e = .returned (.tuple #[.agg #[.int .i64 0, .int .i64 0, .string ⟨#[]⟩], .int .i64 1]) ∧ Below w.heap.size w w' := by
  have T0 := Lib.hid hT
  clear hT
  have D0 := Lib.hid (D3.start w 23 k n s k2 n2 s2)
  go_enter Tryz.func14, Tryz.ntmps14
  go_wp2
  refine bodyPost_ret (results_ct rfl _ _ (w.heap.size + 1 + 1) 23 #[.int .i64 0, .int .i64 0, .string ⟨#[]⟩] (0, 0) _ rfl (D0.out.R) Tryz.underlying23 rfl (by kernel_rfl)) rfl ⟨rfl, D0.out.bel⟩
set_option maxHeartbeats 8000000 in
theorem qHil (k n : Int) (s : ByteArray) (k2 n2 : Int) (s2 : ByteArray) (op most : Int) (g1 : decide (1 ≤ op) = true) (g2 : decide (op ≤ 10) = false) (g3 : decide (14 ≤ op) = false) (e11 : (op == 11) = false) (e12 : (op == 12) = false) (e13 : (op == 13) = false) (w : World) (hT : Tab w) : Calls Tryz.prog 14 #[.int .i64 op, .agg #[.int .i64 k, .int .i64 n, .string s], .agg #[.int .i64 k2, .int .i64 n2, .string s2], .int .i64 most] w fun e w' => e = .returned (.tuple #[.agg #[.int .i64 0, .int .i64 0, .string ⟨#[]⟩], .int .i64 1]) ∧ Below w.heap.size w w' := by
  have T0 := Lib.hid hT
  clear hT
  have D0 := Lib.hid (D3.start w 23 k n s k2 n2 s2)
  go_enter Tryz.func14, Tryz.ntmps14
  go_wp2
  refine bodyPost_ret (results_ct rfl _ _ (w.heap.size + 1 + 1) 23 #[.int .i64 0, .int .i64 0, .string ⟨#[]⟩] (0, 0) _ rfl (D0.out.R) Tryz.underlying23 rfl (by kernel_rfl)) rfl ⟨rfl, D0.out.bel⟩
set_option maxHeartbeats 8000000 in
theorem qHih (k n : Int) (s : ByteArray) (k2 n2 : Int) (s2 : ByteArray) (op most : Int) (g1 : decide (1 ≤ op) = true) (g2 : decide (op ≤ 10) = false) (g3 : decide (14 ≤ op) = true) (g4 : decide (op ≤ 17) = false) (e11 : (op == 11) = false) (e12 : (op == 12) = false) (e13 : (op == 13) = false) (w : World) (hT : Tab w) : Calls Tryz.prog 14 #[.int .i64 op, .agg #[.int .i64 k, .int .i64 n, .string s], .agg #[.int .i64 k2, .int .i64 n2, .string s2], .int .i64 most] w fun e w' => e = .returned (.tuple #[.agg #[.int .i64 0, .int .i64 0, .string ⟨#[]⟩], .int .i64 1]) ∧ Below w.heap.size w w' := by
  have T0 := Lib.hid hT
  clear hT
  have D0 := Lib.hid (D3.start w 23 k n s k2 n2 s2)
  go_enter Tryz.func14, Tryz.ntmps14
  go_wp2
  refine bodyPost_ret (results_ct rfl _ _ (w.heap.size + 1 + 1) 23 #[.int .i64 0, .int .i64 0, .string ⟨#[]⟩] (0, 0) _ rfl (D0.out.R) Tryz.underlying23 rfl (by kernel_rfl)) rfl ⟨rfl, D0.out.bel⟩
theorem lessB_ok (k n : Int) (s : ByteArray) (k2 n2 : Int) (s2 : ByteArray) : (lessB k n s k2 n2 s2).2 = (lessB k2 n2 s2 k n s).2 := by
  unfold lessB
  by_cases h : k = k2
  · subst h; by_cases h2 : k = 2 <;> by_cases h3 : k = 3 <;> simp [h2, h3]
  · rw [if_neg h, if_neg (Ne.symm h)]
theorem hRDo (op : Int) (k n : Int) (s : ByteArray) (k2 n2 : Int) (s2 : ByteArray) (most : Int) (hn : inR n) (hn2 : inR n2) (hs : s.size ≤ 140737488351232) (hs2 : s2.size ≤ 140737488351232) (w : World) (hT : Tab w) : Calls Tryz.prog 14 #[.int .i64 op, .agg #[.int .i64 k, .int .i64 n, .string s], .agg #[.int .i64 k2, .int .i64 n2, .string s2], .int .i64 most] w fun e w' => e = .returned (.tuple #[.agg #[.int .i64 (doT op k n s k2 n2 s2 most).1, .int .i64 (doT op k n s k2 n2 s2 most).2.1, .string (doT op k n s k2 n2 s2 most).2.2.1], .int .i64 (doT op k n s k2 n2 s2 most).2.2.2]) ∧ Below w.heap.size w w' := by
  unfold doT
  by_cases h16 : op = 16
  · subst h16
    rcases hl : lessB k n s k2 n2 s2 with ⟨x, z⟩
    rcases hg : lessB k2 n2 s2 k n s with ⟨y, z2⟩
    have hz := lessB_ok k n s k2 n2 s2
    rw [hl, hg] at hz
    have hz : z = z2 := hz
    subst hz
    rw [if_pos rfl]; unfold baseT
    rw [if_neg (by decide), if_neg (by decide), if_neg (by decide), if_pos rfl]
    have hl' : rlessF k n s k2 n2 s2 = some (x, z) := by unfold rlessF; rw [if_pos hs, hl]
    have hg' : rlessF k2 n2 s2 k n s = some (y, z) := by unfold rlessF; rw [if_pos hs2, hg]
    try rw [hg]
    cases z
    · exact q16n k n s k2 n2 s2 most x y false hl' hg' w hT
    · have e : bV (y != false) = (1, (fun b => if b = true then (1 : Int) else 0) (y), ⟨#[]⟩, 0) := by cases y <;> rfl
      rw [if_pos rfl]
      dsimp only
      rw [e]
      exact q16 k n s k2 n2 s2 most x y true hl' hg' (fun b => if b = true then (1 : Int) else 0) (fun _ => rfl) w hT
  rw [if_neg h16]
  by_cases h17 : op = 17
  · subst h17
    rcases hl : lessB k n s k2 n2 s2 with ⟨x, z⟩
    rcases hg : lessB k2 n2 s2 k n s with ⟨y, z2⟩
    have hz := lessB_ok k n s k2 n2 s2
    rw [hl, hg] at hz
    have hz : z = z2 := hz
    subst hz
    rw [if_pos rfl]; unfold baseT
    rw [if_neg (by decide), if_neg (by decide), if_pos rfl]
    have hl' : rlessF k n s k2 n2 s2 = some (x, z) := by unfold rlessF; rw [if_pos hs, hl]
    have hg' : rlessF k2 n2 s2 k n s = some (y, z) := by unfold rlessF; rw [if_pos hs2, hg]
    try rw [hl]
    cases z
    · exact q17n k n s k2 n2 s2 most x y false hl' hg' w hT
    · have e : bV (!x) = (1, (fun b => if b = true then (1 : Int) else 0) (!x), ⟨#[]⟩, 0) := by cases x <;> rfl
      rw [if_pos rfl]
      dsimp only
      rw [e]
      exact q17 k n s k2 n2 s2 most x y true hl' hg' (fun b => if b = true then (1 : Int) else 0) (fun _ => rfl) w hT
  rw [if_neg h17]
  by_cases h13 : op = 13
  · subst h13
    rw [if_pos rfl]; unfold baseT
    rw [if_neg (by decide), if_pos rfl]
    have e : bV (rawB k n s k2 n2 s2 != true) = (1, (fun b => if b = true then (1 : Int) else 0) (!rawB k n s k2 n2 s2), ⟨#[]⟩, 0) := by cases rawB k n s k2 n2 s2 <;> rfl
    rw [e]
    exact q13 k n s k2 n2 s2 most (rawB k n s k2 n2 s2) (fun b => if b = true then (1 : Int) else 0) (fun _ => rfl) rfl w hT
  rw [if_neg h13]
  unfold baseT
  by_cases h11 : op = 11
  · subst h11
    rw [if_pos rfl]
    have h1 := stringT_size k n s hn hs
    have h2 := stringT_size k2 n2 s2 hn2 hs2
    have hx : rstringF k n s = some (stringT k n s) := by unfold rstringF stringF; rw [if_pos hn]
    have hy : rstringF k2 n2 s2 = some (stringT k2 n2 s2) := by unfold rstringF stringF; rw [if_pos hn2]
    generalize stringT k n s = x at *
    generalize stringT k2 n2 s2 = y at *
    obtain ⟨x1, x2⟩ := x
    obtain ⟨y1, y2⟩ := y
    have h1 : x1.size ≤ 140737488351232 := h1
    have h2 : y1.size ≤ 140737488351232 := h2
    have hw : wrap64 ((x1.size : Int) + (y1.size : Int)) = (x1.size : Int) + (y1.size : Int) := wrap64_in (by omega)
    have hm : (if 0 < most then most else 0) = mx most 0 := by unfold mx; split <;> split <;> omega
    unfold joinT no
    dsimp only
    cases x2
    · rw [if_neg (fun h => by cases h.1)]
      exact qJ1 k n s k2 n2 s2 most x1 y1 y2 hx hy w hT
    · cases y2
      · rw [if_neg (fun h => by cases h.2)]
        exact qJ2 k n s k2 n2 s2 most x1 y1 hx hy w hT
      · rw [if_pos ⟨rfl, rfl⟩]
        by_cases hl : (x1.size : Int) + (y1.size : Int) > mx most 0
        · rw [if_pos hl]
          exact qJ3 k n s k2 n2 s2 most _ x1 y1 hx hy hw hm (decide_eq_true hl) w hT
        · rw [if_neg hl]
          exact qJ4 k n s k2 n2 s2 most _ x1 y1 hx hy hw hm (decide_eq_false hl) (by omega) w hT
  rw [if_neg h11]
  by_cases h12 : op = 12
  · subst h12
    rw [if_pos rfl]
    have e : bV (rawB k n s k2 n2 s2 != false) = (1, (fun b => if b = true then (1 : Int) else 0) (rawB k n s k2 n2 s2), ⟨#[]⟩, 0) := by cases rawB k n s k2 n2 s2 <;> rfl
    rw [e]
    exact q12 k n s k2 n2 s2 most (rawB k n s k2 n2 s2) (fun b => if b = true then (1 : Int) else 0) (fun _ => rfl) rfl w hT
  rw [if_neg h12]
  by_cases h15 : op = 15
  · subst h15
    rcases hl : lessB k n s k2 n2 s2 with ⟨x, z⟩
    rcases hg : lessB k2 n2 s2 k n s with ⟨y, z2⟩
    have hz := lessB_ok k n s k2 n2 s2
    rw [hl, hg] at hz
    have hz : z = z2 := hz
    subst hz
    rw [if_pos rfl]
    have hl' : rlessF k n s k2 n2 s2 = some (x, z) := by unfold rlessF; rw [if_pos hs, hl]
    have hg' : rlessF k2 n2 s2 k n s = some (y, z) := by unfold rlessF; rw [if_pos hs2, hg]
    try rw [hg]
    cases z
    · exact q15n k n s k2 n2 s2 most x y false hl' hg' w hT
    · have e : bV (!y) = (1, (fun b => if b = true then (1 : Int) else 0) (!y), ⟨#[]⟩, 0) := by cases y <;> rfl
      rw [if_pos rfl]
      dsimp only
      rw [e]
      exact q15 k n s k2 n2 s2 most x y true hl' hg' (fun b => if b = true then (1 : Int) else 0) (fun _ => rfl) w hT
  rw [if_neg h15]
  by_cases h14 : op = 14
  · subst h14
    rcases hl : lessB k n s k2 n2 s2 with ⟨x, z⟩
    rcases hg : lessB k2 n2 s2 k n s with ⟨y, z2⟩
    have hz := lessB_ok k n s k2 n2 s2
    rw [hl, hg] at hz
    have hz : z = z2 := hz
    subst hz
    rw [if_pos rfl]
    have hl' : rlessF k n s k2 n2 s2 = some (x, z) := by unfold rlessF; rw [if_pos hs, hl]
    have hg' : rlessF k2 n2 s2 k n s = some (y, z) := by unfold rlessF; rw [if_pos hs2, hg]
    try rw [hl]
    cases z
    · exact q14n k n s k2 n2 s2 most x y false hl' hg' w hT
    · have e : bV (x != false) = (1, (fun b => if b = true then (1 : Int) else 0) (x), ⟨#[]⟩, 0) := by cases x <;> rfl
      rw [if_pos rfl]
      dsimp only
      rw [e]
      exact q14 k n s k2 n2 s2 most x y true hl' hg' (fun b => if b = true then (1 : Int) else 0) (fun _ => rfl) w hT
  rw [if_neg h14]
  have e11 : (op == 11) = false := by simpa using h11
  have e12 : (op == 12) = false := by simpa using h12
  have e13 : (op == 13) = false := by simpa using h13
  by_cases h1 : op < 1
  · rw [if_pos (Or.inl h1)]
    exact qLol k n s k2 n2 s2 op most (decide_eq_false (by omega)) (decide_eq_false (by omega)) e11 e12 e13 w hT
  by_cases h2 : 10 < op
  · rw [if_pos (Or.inr h2)]
    by_cases h3 : 14 ≤ op
    · exact qHih k n s k2 n2 s2 op most (decide_eq_true (by omega)) (decide_eq_false (by omega)) (decide_eq_true h3) (decide_eq_false (by omega)) e11 e12 e13 w hT
    · exact qHil k n s k2 n2 s2 op most (decide_eq_true (by omega)) (decide_eq_false (by omega)) (decide_eq_false h3) e11 e12 e13 w hT
  rw [if_neg (by omega)]
  have g1 : decide (1 ≤ op) = true := decide_eq_true (by omega)
  have g2 : decide (op ≤ 10) = true := decide_eq_true (by omega)
  have r1 := numberT_range k n s hn
  have r2 := numberT_range k2 n2 s2 hn2
  have hx : rnumberF k n s = some (numberT k n s) := by unfold rnumberF numberF; rw [if_pos hs]
  have hy : rnumberF k2 n2 s2 = some (numberT k2 n2 s2) := by unfold rnumberF numberF; rw [if_pos hs2]
  generalize numberT k n s = x at *
  generalize numberT k2 n2 s2 = y at *
  obtain ⟨x1, x2⟩ := x
  obtain ⟨y1, y2⟩ := y
  have r1 : inR x1 := r1
  have r2 : inR y1 := r2
  unfold arithT no
  dsimp only
  cases x2
  · rw [if_neg (fun h => by cases h.1)]
    exact qA1 k n s k2 n2 s2 op most x1 y1 y2 hx hy g1 g2 w hT
  · cases y2
    · rw [if_neg (fun h => by cases h.2)]
      exact qA2 k n s k2 n2 s2 op most x1 y1 hx hy g1 g2 w hT
    · have hd : rnumdoF op x1 y1 = some (Num.doN op x1 y1, Num.doE op x1 y1) := by unfold rnumdoF; rw [if_pos ⟨r1, r2⟩]
      rw [if_pos ⟨rfl, rfl⟩]
      by_cases he : Num.doE op x1 y1 = 0
      · rw [if_pos he]
        rw [he] at hd
        exact qA4 k n s k2 n2 s2 op most x1 y1 _ hx hy hd g1 g2 w hT
      · rw [if_neg he]
        exact qA3 k n s k2 n2 s2 op most x1 y1 _ _ hx hy hd (by simpa using he) g1 g2 w hT
set_option maxHeartbeats 8000000 in
theorem rone22false (k n : Int) (s : ByteArray) (bi : Bool → Int) (hbi : ∀ b, (if b = true then 1 else 0) = bi b) (hb : truthB k n = false) (w : World) (hT : Tab w) : Calls Tryz.prog 16 #[.int .i64 22, .agg #[.int .i64 k, .int .i64 n, .string s]] w fun e w' => e = .returned (.tuple #[.agg #[.int .i64 1, .int .i64 (bi true), .string ⟨#[]⟩], .int .i64 0]) ∧ Below w.heap.size w w' := by
  have T0 := Lib.hid hT
  clear hT
  have D0 := Lib.hid (D2.start w 23 k n s)
  have X := Lib.hid (fun W => rtruth_calls k n s false W (by unfold rtruthF; rw [hb]))
  have HT := Lib.hid (fun b W => rtruth11_calls bi hbi b W)
  clear hb hbi
  go_enter Tryz.func16, Tryz.ntmps16
  go_wp2_with (first | (go_at_call 42; (with_reducible refine (X.out _).mono ?_); rintro e wn ⟨rfl, hb⟩; have D1 := Lib.hid ((D0.out).on hb); clear hb; have a0 := D1.out.A.cell 0 _ rfl; have a1 := D1.out.A.cell 1 _ rfl; have a2 := D1.out.A.cell 2 _ rfl; have fa0 := D1.out.A.frozen 0; have fa1 := D1.out.A.frozen 1; have fa2 := D1.out.A.frozen 2; have r0 := D1.out.R.cell 0 _ rfl; have r1 := D1.out.R.cell 1 _ rfl; have r2 := D1.out.R.cell 2 _ rfl; have fr0 := D1.out.R.frozen 0; have fr1 := D1.out.R.frozen 1; have fr2 := D1.out.R.frozen 2) | (go_at_call 36; (with_reducible refine (HT.out _ _).mono ?_); rintro e wn ⟨rfl, hb⟩; have D2 := Lib.hid ((D1.out).on hb); clear hb; have a0 := D2.out.A.cell 0 _ rfl; have a1 := D2.out.A.cell 1 _ rfl; have a2 := D2.out.A.cell 2 _ rfl; have fa0 := D2.out.A.frozen 0; have fa1 := D2.out.A.frozen 1; have fa2 := D2.out.A.frozen 2; have r0 := D2.out.R.cell 0 _ rfl; have r1 := D2.out.R.cell 1 _ rfl; have r2 := D2.out.R.cell 2 _ rfl; have fr0 := D2.out.R.frozen 0; have fr1 := D2.out.R.frozen 1; have fr2 := D2.out.R.frozen 2))
  refine bodyPost_ret (results_ct rfl _ _ (w.heap.size + 1) 23 #[.int .i64 1, .int .i64 _, .string ⟨#[]⟩] (0, 0) _ rfl ((D2.out).put 1 _ _).1 Tryz.underlying23 rfl (by kernel_rfl)) rfl ⟨rfl, ((D2.out).put 1 _ _).2⟩
set_option maxHeartbeats 8000000 in
theorem rone22true (k n : Int) (s : ByteArray) (bi : Bool → Int) (hbi : ∀ b, (if b = true then 1 else 0) = bi b) (hb : truthB k n = true) (w : World) (hT : Tab w) : Calls Tryz.prog 16 #[.int .i64 22, .agg #[.int .i64 k, .int .i64 n, .string s]] w fun e w' => e = .returned (.tuple #[.agg #[.int .i64 1, .int .i64 (bi false), .string ⟨#[]⟩], .int .i64 0]) ∧ Below w.heap.size w w' := by
  have T0 := Lib.hid hT
  clear hT
  have D0 := Lib.hid (D2.start w 23 k n s)
  have X := Lib.hid (fun W => rtruth_calls k n s true W (by unfold rtruthF; rw [hb]))
  have HT := Lib.hid (fun b W => rtruth11_calls bi hbi b W)
  clear hb hbi
  go_enter Tryz.func16, Tryz.ntmps16
  go_wp2_with (first | (go_at_call 42; (with_reducible refine (X.out _).mono ?_); rintro e wn ⟨rfl, hb⟩; have D1 := Lib.hid ((D0.out).on hb); clear hb; have a0 := D1.out.A.cell 0 _ rfl; have a1 := D1.out.A.cell 1 _ rfl; have a2 := D1.out.A.cell 2 _ rfl; have fa0 := D1.out.A.frozen 0; have fa1 := D1.out.A.frozen 1; have fa2 := D1.out.A.frozen 2; have r0 := D1.out.R.cell 0 _ rfl; have r1 := D1.out.R.cell 1 _ rfl; have r2 := D1.out.R.cell 2 _ rfl; have fr0 := D1.out.R.frozen 0; have fr1 := D1.out.R.frozen 1; have fr2 := D1.out.R.frozen 2) | (go_at_call 36; (with_reducible refine (HT.out _ _).mono ?_); rintro e wn ⟨rfl, hb⟩; have D2 := Lib.hid ((D1.out).on hb); clear hb; have a0 := D2.out.A.cell 0 _ rfl; have a1 := D2.out.A.cell 1 _ rfl; have a2 := D2.out.A.cell 2 _ rfl; have fa0 := D2.out.A.frozen 0; have fa1 := D2.out.A.frozen 1; have fa2 := D2.out.A.frozen 2; have r0 := D2.out.R.cell 0 _ rfl; have r1 := D2.out.R.cell 1 _ rfl; have r2 := D2.out.R.cell 2 _ rfl; have fr0 := D2.out.R.frozen 0; have fr1 := D2.out.R.frozen 1; have fr2 := D2.out.R.frozen 2))
  refine bodyPost_ret (results_ct rfl _ _ (w.heap.size + 1) 23 #[.int .i64 1, .int .i64 _, .string ⟨#[]⟩] (0, 0) _ rfl ((D2.out).put 1 _ _).1 Tryz.underlying23 rfl (by kernel_rfl)) rfl ⟨rfl, ((D2.out).put 1 _ _).2⟩
set_option maxHeartbeats 8000000 in
theorem rone23 (n : Int) (s : ByteArray)  (w : World) (hT : Tab w) : Calls Tryz.prog 16 #[.int .i64 23, .agg #[.int .i64 3, .int .i64 n, .string s]] w fun e w' => e = .returned (.tuple #[.agg #[.int .i64 2, .int .i64 (s.size : Int), .string ⟨#[]⟩], .int .i64 0]) ∧ Below w.heap.size w w' := by
  have T0 := Lib.hid hT
  clear hT
  have D0 := Lib.hid (D2.start w 23 3 n s)
  have HQ : Blk ((w.alloc (.cells #[.int .i64 3, .int .i64 n, .string s] 23)).alloc (.cells #[.int .i64 2, .int .i64 (s.size : Int), .string ⟨#[]⟩] 23)) (w.heap.size + 1) 23 [.int .i64 2, .int .i64 (s.size : Int), .string ⟨#[]⟩] := by simpa using Blk.new (w.alloc (.cells #[.int .i64 3, .int .i64 n, .string s] 23)) [.int .i64 2, .int .i64 (s.size : Int), .string ⟨#[]⟩] 23
  go_enter Tryz.func16, Tryz.ntmps16
  go_wp2
  refine bodyPost_ret (results_ct rfl _ _ (w.heap.size + 1) 23 #[.int .i64 2, .int .i64 (s.size : Int), .string ⟨#[]⟩] (0, 0) _ rfl HQ Tryz.underlying23 rfl (by kernel_rfl)) rfl ⟨rfl, bel2 w _ _⟩
set_option maxHeartbeats 8000000 in
theorem rone23n (k n : Int) (s : ByteArray) (h3 : (k != 3) = true) (w : World) (hT : Tab w) : Calls Tryz.prog 16 #[.int .i64 23, .agg #[.int .i64 k, .int .i64 n, .string s]] w fun e w' => e = .returned (.tuple #[.agg #[.int .i64 0, .int .i64 0, .string ⟨#[]⟩], .int .i64 18]) ∧ Below w.heap.size w w' := by
  have T0 := Lib.hid hT
  clear hT
  have D0 := Lib.hid (D2.start w 23 k n s)
  go_enter Tryz.func16, Tryz.ntmps16
  go_wp2
  refine bodyPost_ret (results_ct rfl _ _ (w.heap.size + 1) 23 #[.int .i64 0, .int .i64 0, .string ⟨#[]⟩] (0, 0) _ rfl (D0.out.R) Tryz.underlying23 rfl (by kernel_rfl)) rfl ⟨rfl, D0.out.bel⟩
set_option maxHeartbeats 8000000 in
theorem rone20n (k n : Int) (s : ByteArray) (x1 : Int) (hx : rnumberF k n s = some (x1, false)) (w : World) (hT : Tab w) : Calls Tryz.prog 16 #[.int .i64 20, .agg #[.int .i64 k, .int .i64 n, .string s]] w fun e w' => e = .returned (.tuple #[.agg #[.int .i64 0, .int .i64 0, .string ⟨#[]⟩], .int .i64 18]) ∧ Below w.heap.size w w' := by
  have T0 := Lib.hid hT
  clear hT
  have D0 := Lib.hid (D2.start w 23 k n s)
  have X := Lib.hid (fun W hW => rnumber_calls k n s _ _ W hW hx)
  clear hx
  go_enter Tryz.func16, Tryz.ntmps16
  go_wp2_with (go_at_call 33; (with_reducible refine (X.out _ (T0.out.on D0.out.bel)).mono ?_); rintro e wn ⟨rfl, hb⟩; have D1 := Lib.hid ((D0.out).on hb); clear hb; have a0 := D1.out.A.cell 0 _ rfl; have a1 := D1.out.A.cell 1 _ rfl; have a2 := D1.out.A.cell 2 _ rfl; have fa0 := D1.out.A.frozen 0; have fa1 := D1.out.A.frozen 1; have fa2 := D1.out.A.frozen 2; have r0 := D1.out.R.cell 0 _ rfl; have r1 := D1.out.R.cell 1 _ rfl; have r2 := D1.out.R.cell 2 _ rfl; have fr0 := D1.out.R.frozen 0; have fr1 := D1.out.R.frozen 1; have fr2 := D1.out.R.frozen 2)
  refine bodyPost_ret (results_ct rfl _ _ (w.heap.size + 1) 23 #[.int .i64 0, .int .i64 0, .string ⟨#[]⟩] (0, 0) _ rfl ((D1.out).put 0 0 _).1 Tryz.underlying23 rfl (by kernel_rfl)) rfl ⟨rfl, ((D1.out).put 0 0 _).2⟩
set_option maxHeartbeats 8000000 in
theorem rone20 (k n : Int) (s : ByteArray) (x1 r : Int) (hx : rnumberF k n s = some (x1, true)) (hr : rnumoneF 20 x1 = some (r, 0)) (w : World) (hT : Tab w) : Calls Tryz.prog 16 #[.int .i64 20, .agg #[.int .i64 k, .int .i64 n, .string s]] w fun e w' => e = .returned (.tuple #[.agg #[.int .i64 2, .int .i64 r, .string ⟨#[]⟩], .int .i64 0]) ∧ Below w.heap.size w w' := by
  have T0 := Lib.hid hT
  clear hT
  have D0 := Lib.hid (D2.start w 23 k n s)
  have X := Lib.hid (fun W hW => rnumber_calls k n s _ _ W hW hx)
  have Y := Lib.hid (fun W => rnumone_calls 20 x1 _ _ W hr)
  clear hx hr
  go_enter Tryz.func16, Tryz.ntmps16
  go_wp2_with (first | (go_at_call 33; (with_reducible refine (X.out _ (T0.out.on D0.out.bel)).mono ?_); rintro e wn ⟨rfl, hb⟩; have D1 := Lib.hid ((D0.out).on hb); clear hb; have a0 := D1.out.A.cell 0 _ rfl; have a1 := D1.out.A.cell 1 _ rfl; have a2 := D1.out.A.cell 2 _ rfl; have fa0 := D1.out.A.frozen 0; have fa1 := D1.out.A.frozen 1; have fa2 := D1.out.A.frozen 2; have r0 := D1.out.R.cell 0 _ rfl; have r1 := D1.out.R.cell 1 _ rfl; have r2 := D1.out.R.cell 2 _ rfl; have fr0 := D1.out.R.frozen 0; have fr1 := D1.out.R.frozen 1; have fr2 := D1.out.R.frozen 2) | (go_at_call 41; (with_reducible refine (Y.out _).mono ?_); rintro e wn ⟨rfl, hb⟩; have D2 := Lib.hid ((D1.out).on hb); clear hb; have a0 := D2.out.A.cell 0 _ rfl; have a1 := D2.out.A.cell 1 _ rfl; have a2 := D2.out.A.cell 2 _ rfl; have fa0 := D2.out.A.frozen 0; have fa1 := D2.out.A.frozen 1; have fa2 := D2.out.A.frozen 2; have r0 := D2.out.R.cell 0 _ rfl; have r1 := D2.out.R.cell 1 _ rfl; have r2 := D2.out.R.cell 2 _ rfl; have fr0 := D2.out.R.frozen 0; have fr1 := D2.out.R.frozen 1; have fr2 := D2.out.R.frozen 2))
  refine bodyPost_ret (results_ct rfl _ _ (w.heap.size + 1) 23 #[.int .i64 2, .int .i64 r, .string ⟨#[]⟩] (0, 0) _ rfl ((D2.out).put 2 _ _).1 Tryz.underlying23 rfl (by kernel_rfl)) rfl ⟨rfl, ((D2.out).put 2 _ _).2⟩
set_option maxHeartbeats 8000000 in
theorem rone21n (k n : Int) (s : ByteArray) (x1 : Int) (hx : rnumberF k n s = some (x1, false)) (w : World) (hT : Tab w) : Calls Tryz.prog 16 #[.int .i64 21, .agg #[.int .i64 k, .int .i64 n, .string s]] w fun e w' => e = .returned (.tuple #[.agg #[.int .i64 0, .int .i64 0, .string ⟨#[]⟩], .int .i64 18]) ∧ Below w.heap.size w w' := by
  have T0 := Lib.hid hT
  clear hT
  have D0 := Lib.hid (D2.start w 23 k n s)
  have X := Lib.hid (fun W hW => rnumber_calls k n s _ _ W hW hx)
  clear hx
  go_enter Tryz.func16, Tryz.ntmps16
  go_wp2_with (go_at_call 33; (with_reducible refine (X.out _ (T0.out.on D0.out.bel)).mono ?_); rintro e wn ⟨rfl, hb⟩; have D1 := Lib.hid ((D0.out).on hb); clear hb; have a0 := D1.out.A.cell 0 _ rfl; have a1 := D1.out.A.cell 1 _ rfl; have a2 := D1.out.A.cell 2 _ rfl; have fa0 := D1.out.A.frozen 0; have fa1 := D1.out.A.frozen 1; have fa2 := D1.out.A.frozen 2; have r0 := D1.out.R.cell 0 _ rfl; have r1 := D1.out.R.cell 1 _ rfl; have r2 := D1.out.R.cell 2 _ rfl; have fr0 := D1.out.R.frozen 0; have fr1 := D1.out.R.frozen 1; have fr2 := D1.out.R.frozen 2)
  refine bodyPost_ret (results_ct rfl _ _ (w.heap.size + 1) 23 #[.int .i64 0, .int .i64 0, .string ⟨#[]⟩] (0, 0) _ rfl ((D1.out).put 0 0 _).1 Tryz.underlying23 rfl (by kernel_rfl)) rfl ⟨rfl, ((D1.out).put 0 0 _).2⟩
set_option maxHeartbeats 8000000 in
theorem rone21 (k n : Int) (s : ByteArray) (x1 r : Int) (hx : rnumberF k n s = some (x1, true)) (hr : rnumoneF 21 x1 = some (r, 0)) (w : World) (hT : Tab w) : Calls Tryz.prog 16 #[.int .i64 21, .agg #[.int .i64 k, .int .i64 n, .string s]] w fun e w' => e = .returned (.tuple #[.agg #[.int .i64 2, .int .i64 r, .string ⟨#[]⟩], .int .i64 0]) ∧ Below w.heap.size w w' := by
  have T0 := Lib.hid hT
  clear hT
  have D0 := Lib.hid (D2.start w 23 k n s)
  have X := Lib.hid (fun W hW => rnumber_calls k n s _ _ W hW hx)
  have Y := Lib.hid (fun W => rnumone_calls 21 x1 _ _ W hr)
  clear hx hr
  go_enter Tryz.func16, Tryz.ntmps16
  go_wp2_with (first | (go_at_call 33; (with_reducible refine (X.out _ (T0.out.on D0.out.bel)).mono ?_); rintro e wn ⟨rfl, hb⟩; have D1 := Lib.hid ((D0.out).on hb); clear hb; have a0 := D1.out.A.cell 0 _ rfl; have a1 := D1.out.A.cell 1 _ rfl; have a2 := D1.out.A.cell 2 _ rfl; have fa0 := D1.out.A.frozen 0; have fa1 := D1.out.A.frozen 1; have fa2 := D1.out.A.frozen 2; have r0 := D1.out.R.cell 0 _ rfl; have r1 := D1.out.R.cell 1 _ rfl; have r2 := D1.out.R.cell 2 _ rfl; have fr0 := D1.out.R.frozen 0; have fr1 := D1.out.R.frozen 1; have fr2 := D1.out.R.frozen 2) | (go_at_call 41; (with_reducible refine (Y.out _).mono ?_); rintro e wn ⟨rfl, hb⟩; have D2 := Lib.hid ((D1.out).on hb); clear hb; have a0 := D2.out.A.cell 0 _ rfl; have a1 := D2.out.A.cell 1 _ rfl; have a2 := D2.out.A.cell 2 _ rfl; have fa0 := D2.out.A.frozen 0; have fa1 := D2.out.A.frozen 1; have fa2 := D2.out.A.frozen 2; have r0 := D2.out.R.cell 0 _ rfl; have r1 := D2.out.R.cell 1 _ rfl; have r2 := D2.out.R.cell 2 _ rfl; have fr0 := D2.out.R.frozen 0; have fr1 := D2.out.R.frozen 1; have fr2 := D2.out.R.frozen 2))
  refine bodyPost_ret (results_ct rfl _ _ (w.heap.size + 1) 23 #[.int .i64 2, .int .i64 r, .string ⟨#[]⟩] (0, 0) _ rfl ((D2.out).put 2 _ _).1 Tryz.underlying23 rfl (by kernel_rfl)) rfl ⟨rfl, ((D2.out).put 2 _ _).2⟩
set_option maxHeartbeats 8000000 in
theorem roneE (k n : Int) (s : ByteArray) (op : Int) (e22 : (op == 22) = false) (e23 : (op == 23) = false) (e20 : (op == 20) = false) (e21 : (op == 21) = false) (w : World) (hT : Tab w) : Calls Tryz.prog 16 #[.int .i64 op, .agg #[.int .i64 k, .int .i64 n, .string s]] w fun e w' => e = .returned (.tuple #[.agg #[.int .i64 0, .int .i64 0, .string ⟨#[]⟩], .int .i64 1]) ∧ Below w.heap.size w w' := by
  have T0 := Lib.hid hT
  clear hT
  have D0 := Lib.hid (D2.start w 23 k n s)
  go_enter Tryz.func16, Tryz.ntmps16
  go_wp2
  refine bodyPost_ret (results_ct rfl _ _ (w.heap.size + 1) 23 #[.int .i64 0, .int .i64 0, .string ⟨#[]⟩] (0, 0) _ rfl (D0.out.R) Tryz.underlying23 rfl (by kernel_rfl)) rfl ⟨rfl, D0.out.bel⟩
theorem hROne (op k n : Int) (s : ByteArray) (hs : s.size ≤ 140737488351232) (w : World) (hT : Tab w) : Calls Tryz.prog 16 #[.int .i64 op, .agg #[.int .i64 k, .int .i64 n, .string s]] w fun e w' => e = .returned (.tuple #[.agg #[.int .i64 (oneT op k n s).1, .int .i64 (oneT op k n s).2.1, .string (oneT op k n s).2.2.1], .int .i64 (oneT op k n s).2.2.2]) ∧ Below w.heap.size w w' := by
  unfold oneT
  by_cases h22 : op = 22
  · subst h22
    rw [if_pos rfl]
    cases hb : truthB k n
    · exact rone22false k n s (fun b => if b = true then (1 : Int) else 0) (fun _ => rfl) hb w hT
    · exact rone22true k n s (fun b => if b = true then (1 : Int) else 0) (fun _ => rfl) hb w hT
  rw [if_neg h22]
  by_cases h23 : op = 23
  · subst h23
    rw [if_pos rfl]
    by_cases h3 : k = 3
    · subst h3
      rw [if_pos rfl]
      exact rone23 n s w hT
    · rw [if_neg h3]
      exact rone23n k n s (by simpa using h3) w hT
  rw [if_neg h23]
  by_cases h20 : op = 20
  · subst h20
    rw [if_pos (by simp)]
    have hx : rnumberF k n s = some (numberT k n s) := by unfold rnumberF numberF; rw [if_pos hs]
    rcases hv : numberT k n s with ⟨x1, x2⟩
    rw [hv] at hx
    cases x2
    · rw [if_neg (by simp)]
      exact rone20n k n s x1 hx w hT
    · rw [if_pos rfl]
      exact rone20 k n s x1 _ hx rfl w hT
  by_cases h21 : op = 21
  · subst h21
    rw [if_pos (by simp)]
    have hx : rnumberF k n s = some (numberT k n s) := by unfold rnumberF numberF; rw [if_pos hs]
    rcases hv : numberT k n s with ⟨x1, x2⟩
    rw [hv] at hx
    cases x2
    · rw [if_neg (by simp)]
      exact rone21n k n s x1 hx w hT
    · rw [if_pos rfl]
      exact rone21 k n s x1 _ hx rfl w hT
  rw [if_neg (by omega)]
  exact roneE k n s op (by simpa using h22) (by simpa using h23) (by simpa using h20) (by simpa using h21) w hT
end Go.Proofs.YtpgpmldaggpciaaGreatDoor.GW
