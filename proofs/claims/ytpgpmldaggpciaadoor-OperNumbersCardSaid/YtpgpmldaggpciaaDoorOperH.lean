/- Package oper by hand: the calls answer as the plain functions. -/
import Derived.Test.YtpgpmldaggpciaaDoorOperT
import Derived.Test.YtpgpmldaggpciaaDoorRawH
import Derived.Test.YtpgpmldaggpciaaDoorWMoreMini
set_option linter.unusedVariables false
set_option linter.unusedSimpArgs false
namespace Go.Proofs.YtpgpmldaggpciaaDoor.GW
open Go.RowKit Go.Proofs.YtpgpmldaggpciaaDoorW.PrintWords Go.Proofs.YtpgpmldaggpciaaDoorW.PrintLast Go.Proofs.YtpgpmldaggpciaaDoorW.PrintMore Go.Proofs.YtpgpmldaggpciaaDoor.Maths Go.Proofs.YtpgpmldaggpciaaDoor.TabW Go.Proofs.YtpgpmldaggpciaaDoor.HK Go.Proofs.YtpgpmldaggpciaaDoor.Val
attribute [local go_sem] max2_int min2_int max_two min_two
theorem _root_.Go.Proofs.YtpgpmldaggpciaaDoor.HK.D3.swap {w W : World} {t : TypeId} {k n k2 n2 : Int} {s s2 : ByteArray} (h : D3 w t k n s k2 n2 s2 W) :
    D3 w t k2 n2 s2 k n s ((((((W.setCell ⟨w.heap.size, 0, none⟩ (.int .i64 k2)).setCell ⟨w.heap.size, 1, none⟩ (.int .i64 n2)).setCell ⟨w.heap.size, 2, none⟩ (.string s2)).setCell ⟨w.heap.size + 1, 0, none⟩ (.int .i64 k)).setCell ⟨w.heap.size + 1, 1, none⟩ (.int .i64 n)).setCell ⟨w.heap.size + 1, 2, none⟩ (.string s)) := by
  have e1 : w.heap.size ≠ w.heap.size + 1 := by omega
  have e2 : w.heap.size + 1 ≠ w.heap.size := by omega
  have e3 : w.heap.size + 1 + 1 ≠ w.heap.size := by omega
  have e4 : w.heap.size + 1 + 1 ≠ w.heap.size + 1 := by omega
  refine ⟨by simpa using h.sz, ?_, ?_, ?_, ?_⟩
  · exact (((((h.bel.setCell (by simp) _).setCell (by simp) _).setCell (by simp) _).setCell (by simp) _).setCell (by simp) _).setCell (by simp) _
  · exact (((((h.A.setSame 0 _).setSame 1 _).setSame 2 _).setOther e1 _).setOther e1 _).setOther e1 _
  · exact (((((h.B.setOther e2 _).setOther e2 _).setOther e2 _).setSame 0 _).setSame 1 _).setSame 2 _
  · exact (((((h.R.setOther e3 _).setOther e3 _).setOther e3 _).setOther e4 _).setOther e4 _).setOther e4 _
theorem hSwap (op o : Int) (a b : Bool) (w : World) (h : (op = 16 ∧ o = 14 ∧ a = true ∧ b = false) ∨ (op = 17 ∧ o = 15 ∧ a = true ∧ b = false) ∨ (op = 13 ∧ o = 12 ∧ a = false ∧ b = true) ∨ (op ≠ 16 ∧ op ≠ 17 ∧ op ≠ 13 ∧ o = op ∧ a = false ∧ b = false)) : Calls Tryd.prog 48 #[.int .i64 op] w fun e w' => e = .returned (.tuple #[.int .i64 o, .bool a, .bool b]) ∧ Below w.heap.size w w' := by
  rcases h with ⟨rfl, rfl, rfl, rfl⟩ | ⟨rfl, rfl, rfl, rfl⟩ | ⟨rfl, rfl, rfl, rfl⟩ | ⟨h1, h2, h3, rfl, rfl, rfl⟩
  · go_enter Tryd.func48, Tryd.ntmps48
    go_wp2
    refine bodyPost_ret (v := .tuple #[.int .i64 _, .bool _, .bool _]) (by simp [results, Tryd.results48, go_sem]; first | done | exact ⟨rfl, rfl, rfl⟩) rfl ⟨rfl, Below.refl _ _⟩
  · go_enter Tryd.func48, Tryd.ntmps48
    go_wp2
    refine bodyPost_ret (v := .tuple #[.int .i64 _, .bool _, .bool _]) (by simp [results, Tryd.results48, go_sem]; first | done | exact ⟨rfl, rfl, rfl⟩) rfl ⟨rfl, Below.refl _ _⟩
  · go_enter Tryd.func48, Tryd.ntmps48
    go_wp2
    refine bodyPost_ret (v := .tuple #[.int .i64 _, .bool _, .bool _]) (by simp [results, Tryd.results48, go_sem]; first | done | exact ⟨rfl, rfl, rfl⟩) rfl ⟨rfl, Below.refl _ _⟩
  · have e1 : (o == 16) = false := by simpa using h1
    have e2 : (o == 17) = false := by simpa using h2
    have e3 : (o == 13) = false := by simpa using h3
    clear h1 h2 h3
    go_enter Tryd.func48, Tryd.ntmps48
    go_wp2
    refine bodyPost_ret (v := .tuple #[.int .i64 _, .bool _, .bool _]) (by simp [results, Tryd.results48, go_sem]; first | done | exact ⟨rfl, rfl, rfl⟩) rfl ⟨rfl, Below.refl _ _⟩
theorem hNumbers (k n : Int) (s : ByteArray) (k2 n2 : Int) (s2 : ByteArray) (x1 y1 : Int) (x2 y2 : Bool) (w : World) (hT : Tab w) (hx : numberF k n s = some (x1, x2)) (hy : numberF k2 n2 s2 = some (y1, y2)) : Calls Tryd.prog 92 #[.agg #[.int .i64 k, .int .i64 n, .string s], .agg #[.int .i64 k2, .int .i64 n2, .string s2]] w fun e w' => e = .returned (.tuple #[.int .i64 x1, .int .i64 y1, .bool (x2 && y2)]) ∧ Below w.heap.size w w' := by
  have T0 := Lib.hid hT
  have X1 := Lib.hid (fun W hW => number_calls k n s _ _ W hW hx)
  have X2 := Lib.hid (fun W hW => number_calls k2 n2 s2 _ _ W hW hy)
  have HB := Lib.hid (bel2 w (.cells #[.int .i64 k, .int .i64 n, .string s] 32) (.cells #[.int .i64 k2, .int .i64 n2, .string s2] 32))
  have HK2 : Hid (Blk ((w.alloc (.cells #[.int .i64 k, .int .i64 n, .string s] 32)).alloc (.cells #[.int .i64 k2, .int .i64 n2, .string s2] 32)) (w.heap.size + 1) 32 [.int .i64 k2, .int .i64 n2, .string s2]) := Lib.hid (by
    simpa using Blk.new (w.alloc (.cells #[.int .i64 k, .int .i64 n, .string s] 32)) [.int .i64 k2, .int .i64 n2, .string s2] 32)
  clear hx hy hT
  cases x2
  · go_enter Tryd.func92, Tryd.ntmps92
    go_wp2_with (first | (go_at_call 52; (with_reducible refine (X1.out _ (T0.out.on HB.out)).mono ?_); rintro e w1 ⟨rfl, hb⟩; have HB1 := Lib.hid (HB.out.trans (hb.mono HB.out.size)); have HK3 := Lib.hid (HK2.out.of (hb.block _ HK2.out.lt)); clear hb; have b0 := HK3.out.cell 0 _ rfl; have b1 := HK3.out.cell 1 _ rfl; have b2 := HK3.out.cell 2 _ rfl) | (go_at_call 52; (with_reducible refine (X2.out _ (T0.out.on HB1.out)).mono ?_); rintro e w2 ⟨rfl, hb⟩; have HB2 := Lib.hid (HB1.out.trans (hb.mono HB1.out.size)); clear hb))
    refine bodyPost_ret (v := .tuple #[.int .i64 x1, .int .i64 y1, .bool false]) (by simp [results, Tryd.results92, go_sem]) rfl ⟨by simp, HB2.out⟩
  · go_enter Tryd.func92, Tryd.ntmps92
    go_wp2_with (first | (go_at_call 52; (with_reducible refine (X1.out _ (T0.out.on HB.out)).mono ?_); rintro e w1 ⟨rfl, hb⟩; have HB1 := Lib.hid (HB.out.trans (hb.mono HB.out.size)); have HK3 := Lib.hid (HK2.out.of (hb.block _ HK2.out.lt)); clear hb; have b0 := HK3.out.cell 0 _ rfl; have b1 := HK3.out.cell 1 _ rfl; have b2 := HK3.out.cell 2 _ rfl) | (go_at_call 52; (with_reducible refine (X2.out _ (T0.out.on HB1.out)).mono ?_); rintro e w2 ⟨rfl, hb⟩; have HB2 := Lib.hid (HB1.out.trans (hb.mono HB1.out.size)); clear hb))
    refine bodyPost_ret (v := .tuple #[.int .i64 x1, .int .i64 y1, .bool y2]) (by simp [results, Tryd.results92, go_sem]) rfl ⟨by simp, HB2.out⟩
set_option maxHeartbeats 8000000 in
theorem arithN (k n : Int) (s : ByteArray) (k2 n2 : Int) (s2 : ByteArray) (op x1 y1 : Int) (x2 y2 : Bool) (hx : numberF k n s = some (x1, x2)) (hy : numberF k2 n2 s2 = some (y1, y2)) (hb : (x2 && y2) = false) (w : World) (hT : Tab w) : Calls Tryd.prog 72 #[.int .i64 op, .agg #[.int .i64 k, .int .i64 n, .string s], .agg #[.int .i64 k2, .int .i64 n2, .string s2]] w fun e w' => e = .returned (.tuple #[.agg #[.int .i64 0, .int .i64 0, .string ⟨#[]⟩], .int .i64 18]) ∧ Below w.heap.size w w' := by
  have T0 := Lib.hid hT
  clear hT
  have D0 := Lib.hid (D3.start w 32 k n s k2 n2 s2)
  have X := Lib.hid (fun W hW => hNumbers k n s k2 n2 s2 x1 y1 x2 y2 W hW hx hy)
  rw [hb] at X
  clear hx hy hb
  go_enter Tryd.func72, Tryd.ntmps72
  go_wp2_with (go_at_call 92; (with_reducible refine (X.out _ (T0.out.on D0.out.bel)).mono ?_); rintro e wn ⟨rfl, hb⟩; have D1 := Lib.hid ((D0.out).on hb); clear hb; have a0 := D1.out.A.cell 0 _ rfl; have a1 := D1.out.A.cell 1 _ rfl; have a2 := D1.out.A.cell 2 _ rfl; have fa0 := D1.out.A.frozen 0; have fa1 := D1.out.A.frozen 1; have fa2 := D1.out.A.frozen 2; have b0 := D1.out.B.cell 0 _ rfl; have b1 := D1.out.B.cell 1 _ rfl; have b2 := D1.out.B.cell 2 _ rfl; have fb0 := D1.out.B.frozen 0; have fb1 := D1.out.B.frozen 1; have fb2 := D1.out.B.frozen 2; have r0 := D1.out.R.cell 0 _ rfl; have r1 := D1.out.R.cell 1 _ rfl; have r2 := D1.out.R.cell 2 _ rfl; have fr0 := D1.out.R.frozen 0; have fr1 := D1.out.R.frozen 1; have fr2 := D1.out.R.frozen 2)
  refine bodyPost_ret (results_ct rfl _ _ (w.heap.size + 1 + 1) 32 #[.int .i64 0, .int .i64 0, .string ⟨#[]⟩] (0, 0) _ rfl ((D1.out).put 0 0 _).1 Tryd.underlying32 rfl (by kernel_rfl)) rfl ⟨rfl, ((D1.out).put 0 0 _).2⟩
set_option maxHeartbeats 8000000 in
theorem arithE (k n : Int) (s : ByteArray) (k2 n2 : Int) (s2 : ByteArray) (op x1 y1 r er : Int) (hx : numberF k n s = some (x1, true)) (hy : numberF k2 n2 s2 = some (y1, true)) (hd : numdoF op x1 y1 = some (r, er)) (he : (er != 0) = true) (w : World) (hT : Tab w) : Calls Tryd.prog 72 #[.int .i64 op, .agg #[.int .i64 k, .int .i64 n, .string s], .agg #[.int .i64 k2, .int .i64 n2, .string s2]] w fun e w' => e = .returned (.tuple #[.agg #[.int .i64 0, .int .i64 0, .string ⟨#[]⟩], .int .i64 er]) ∧ Below w.heap.size w w' := by
  have T0 := Lib.hid hT
  clear hT
  have D0 := Lib.hid (D3.start w 32 k n s k2 n2 s2)
  have X := Lib.hid (fun W hW => hNumbers k n s k2 n2 s2 x1 y1 true true W hW hx hy)
  have Y := Lib.hid (fun W => numdo_calls op x1 y1 r er W hd)
  clear hx hy hd
  go_enter Tryd.func72, Tryd.ntmps72
  go_wp2_with (first | (go_at_call 92; (with_reducible refine (X.out _ (T0.out.on D0.out.bel)).mono ?_); rintro e wn ⟨rfl, hb⟩; have D1 := Lib.hid ((D0.out).on hb); clear hb; have a0 := D1.out.A.cell 0 _ rfl; have a1 := D1.out.A.cell 1 _ rfl; have a2 := D1.out.A.cell 2 _ rfl; have fa0 := D1.out.A.frozen 0; have fa1 := D1.out.A.frozen 1; have fa2 := D1.out.A.frozen 2; have b0 := D1.out.B.cell 0 _ rfl; have b1 := D1.out.B.cell 1 _ rfl; have b2 := D1.out.B.cell 2 _ rfl; have fb0 := D1.out.B.frozen 0; have fb1 := D1.out.B.frozen 1; have fb2 := D1.out.B.frozen 2; have r0 := D1.out.R.cell 0 _ rfl; have r1 := D1.out.R.cell 1 _ rfl; have r2 := D1.out.R.cell 2 _ rfl; have fr0 := D1.out.R.frozen 0; have fr1 := D1.out.R.frozen 1; have fr2 := D1.out.R.frozen 2) | (go_at_call 93; (with_reducible refine (Y.out _).mono ?_); rintro e wn ⟨rfl, hb⟩; have D2 := Lib.hid ((D1.out).on hb); clear hb; have a0 := D2.out.A.cell 0 _ rfl; have a1 := D2.out.A.cell 1 _ rfl; have a2 := D2.out.A.cell 2 _ rfl; have fa0 := D2.out.A.frozen 0; have fa1 := D2.out.A.frozen 1; have fa2 := D2.out.A.frozen 2; have b0 := D2.out.B.cell 0 _ rfl; have b1 := D2.out.B.cell 1 _ rfl; have b2 := D2.out.B.cell 2 _ rfl; have fb0 := D2.out.B.frozen 0; have fb1 := D2.out.B.frozen 1; have fb2 := D2.out.B.frozen 2; have r0 := D2.out.R.cell 0 _ rfl; have r1 := D2.out.R.cell 1 _ rfl; have r2 := D2.out.R.cell 2 _ rfl; have fr0 := D2.out.R.frozen 0; have fr1 := D2.out.R.frozen 1; have fr2 := D2.out.R.frozen 2))
  refine bodyPost_ret (results_ct rfl _ _ (w.heap.size + 1 + 1) 32 #[.int .i64 0, .int .i64 0, .string ⟨#[]⟩] (0, 0) _ rfl ((D2.out).put 0 0 _).1 Tryd.underlying32 rfl (by kernel_rfl)) rfl ⟨rfl, ((D2.out).put 0 0 _).2⟩
set_option maxHeartbeats 8000000 in
theorem arithV (k n : Int) (s : ByteArray) (k2 n2 : Int) (s2 : ByteArray) (op x1 y1 r : Int) (hx : numberF k n s = some (x1, true)) (hy : numberF k2 n2 s2 = some (y1, true)) (hd : numdoF op x1 y1 = some (r, 0)) (w : World) (hT : Tab w) : Calls Tryd.prog 72 #[.int .i64 op, .agg #[.int .i64 k, .int .i64 n, .string s], .agg #[.int .i64 k2, .int .i64 n2, .string s2]] w fun e w' => e = .returned (.tuple #[.agg #[.int .i64 2, .int .i64 r, .string ⟨#[]⟩], .int .i64 0]) ∧ Below w.heap.size w w' := by
  have T0 := Lib.hid hT
  clear hT
  have D0 := Lib.hid (D3.start w 32 k n s k2 n2 s2)
  have X := Lib.hid (fun W hW => hNumbers k n s k2 n2 s2 x1 y1 true true W hW hx hy)
  have Y := Lib.hid (fun W => numdo_calls op x1 y1 r 0 W hd)
  clear hx hy hd
  go_enter Tryd.func72, Tryd.ntmps72
  go_wp2_with (first | (go_at_call 92; (with_reducible refine (X.out _ (T0.out.on D0.out.bel)).mono ?_); rintro e wn ⟨rfl, hb⟩; have D1 := Lib.hid ((D0.out).on hb); clear hb; have a0 := D1.out.A.cell 0 _ rfl; have a1 := D1.out.A.cell 1 _ rfl; have a2 := D1.out.A.cell 2 _ rfl; have fa0 := D1.out.A.frozen 0; have fa1 := D1.out.A.frozen 1; have fa2 := D1.out.A.frozen 2; have b0 := D1.out.B.cell 0 _ rfl; have b1 := D1.out.B.cell 1 _ rfl; have b2 := D1.out.B.cell 2 _ rfl; have fb0 := D1.out.B.frozen 0; have fb1 := D1.out.B.frozen 1; have fb2 := D1.out.B.frozen 2; have r0 := D1.out.R.cell 0 _ rfl; have r1 := D1.out.R.cell 1 _ rfl; have r2 := D1.out.R.cell 2 _ rfl; have fr0 := D1.out.R.frozen 0; have fr1 := D1.out.R.frozen 1; have fr2 := D1.out.R.frozen 2) | (go_at_call 93; (with_reducible refine (Y.out _).mono ?_); rintro e wn ⟨rfl, hb⟩; have D2 := Lib.hid ((D1.out).on hb); clear hb; have a0 := D2.out.A.cell 0 _ rfl; have a1 := D2.out.A.cell 1 _ rfl; have a2 := D2.out.A.cell 2 _ rfl; have fa0 := D2.out.A.frozen 0; have fa1 := D2.out.A.frozen 1; have fa2 := D2.out.A.frozen 2; have b0 := D2.out.B.cell 0 _ rfl; have b1 := D2.out.B.cell 1 _ rfl; have b2 := D2.out.B.cell 2 _ rfl; have fb0 := D2.out.B.frozen 0; have fb1 := D2.out.B.frozen 1; have fb2 := D2.out.B.frozen 2; have r0 := D2.out.R.cell 0 _ rfl; have r1 := D2.out.R.cell 1 _ rfl; have r2 := D2.out.R.cell 2 _ rfl; have fr0 := D2.out.R.frozen 0; have fr1 := D2.out.R.frozen 1; have fr2 := D2.out.R.frozen 2) | (go_at_call 53; (with_reducible refine (hInt _ _).mono ?_); rintro e wn ⟨rfl, hb⟩; have D3 := Lib.hid ((D2.out).on hb); clear hb; have a0 := D3.out.A.cell 0 _ rfl; have a1 := D3.out.A.cell 1 _ rfl; have a2 := D3.out.A.cell 2 _ rfl; have fa0 := D3.out.A.frozen 0; have fa1 := D3.out.A.frozen 1; have fa2 := D3.out.A.frozen 2; have b0 := D3.out.B.cell 0 _ rfl; have b1 := D3.out.B.cell 1 _ rfl; have b2 := D3.out.B.cell 2 _ rfl; have fb0 := D3.out.B.frozen 0; have fb1 := D3.out.B.frozen 1; have fb2 := D3.out.B.frozen 2; have r0 := D3.out.R.cell 0 _ rfl; have r1 := D3.out.R.cell 1 _ rfl; have r2 := D3.out.R.cell 2 _ rfl; have fr0 := D3.out.R.frozen 0; have fr1 := D3.out.R.frozen 1; have fr2 := D3.out.R.frozen 2))
  refine bodyPost_ret (results_ct rfl _ _ (w.heap.size + 1 + 1) 32 #[.int .i64 2, .int .i64 r, .string ⟨#[]⟩] (0, 0) _ rfl ((D3.out).put 2 r _).1 Tryd.underlying32 rfl (by kernel_rfl)) rfl ⟨rfl, ((D3.out).put 2 r _).2⟩
theorem hArith (op : Int) (k n : Int) (s : ByteArray) (k2 n2 : Int) (s2 : ByteArray) (hn : inR n) (hn2 : inR n2) (hs : s.size ≤ 140737488351232) (hs2 : s2.size ≤ 140737488351232) (w : World) (hT : Tab w) : Calls Tryd.prog 72 #[.int .i64 op, .agg #[.int .i64 k, .int .i64 n, .string s], .agg #[.int .i64 k2, .int .i64 n2, .string s2]] w fun e w' => e = .returned (.tuple #[.agg #[.int .i64 (arithT op (numberT k n s) (numberT k2 n2 s2)).1, .int .i64 (arithT op (numberT k n s) (numberT k2 n2 s2)).2.1, .string (arithT op (numberT k n s) (numberT k2 n2 s2)).2.2.1], .int .i64 (arithT op (numberT k n s) (numberT k2 n2 s2)).2.2.2]) ∧ Below w.heap.size w w' := by
  have h2 := numberT_range k2 n2 s2 hn2
  have hx : numberF k n s = some (numberT k n s) := by unfold numberF; rw [if_pos hs]
  have hy : numberF k2 n2 s2 = some (numberT k2 n2 s2) := by unfold numberF; rw [if_pos hs2]
  generalize numberT k n s = x at *
  generalize numberT k2 n2 s2 = y at *
  obtain ⟨x1, x2⟩ := x
  obtain ⟨y1, y2⟩ := y
  have h2 : inR y1 := h2
  unfold arithT no
  dsimp only
  cases hb : (x2 && y2)
  · rw [if_neg (fun h => by rw [h.1, h.2] at hb; cases hb)]
    exact arithN k n s k2 n2 s2 op x1 y1 x2 y2 hx hy hb w hT
  · obtain ⟨rfl, rfl⟩ : x2 = true ∧ y2 = true := by simpa using hb
    have hd : numdoF op x1 y1 = some (Num.doN op x1 y1, Num.doE op x1 y1) := by unfold numdoF; rw [if_pos h2]
    rw [if_pos ⟨rfl, rfl⟩]
    by_cases he : Num.doE op x1 y1 = 0
    · rw [if_pos he]
      rw [he] at hd
      exact arithV k n s k2 n2 s2 op x1 y1 _ hx hy hd w hT
    · rw [if_neg he]
      exact arithE k n s k2 n2 s2 op x1 y1 _ _ hx hy hd (by simpa using he) w hT
set_option maxHeartbeats 8000000 in
theorem join1 (k n : Int) (s : ByteArray) (k2 n2 : Int) (s2 : ByteArray) (most : Int) (x1 y1 : ByteArray) (y2 : Bool) (hx : stringF k n s = some (x1, false)) (hy : stringF k2 n2 s2 = some (y1, y2)) (w : World) (hT : Tab w) : Calls Tryd.prog 69 #[.agg #[.int .i64 k, .int .i64 n, .string s], .agg #[.int .i64 k2, .int .i64 n2, .string s2], .int .i64 most] w fun e w' => e = .returned (.tuple #[.agg #[.int .i64 0, .int .i64 0, .string ⟨#[]⟩], .int .i64 18]) ∧ Below w.heap.size w w' := by
  have T0 := Lib.hid hT
  clear hT
  have D0 := Lib.hid (D3.start w 32 k n s k2 n2 s2)
  have X1 := Lib.hid (fun W hW => string_calls k n s x1 false W hW hx)
  have X2 := Lib.hid (fun W hW => string_calls k2 n2 s2 y1 y2 W hW hy)
  clear hx hy
  go_enter Tryd.func69, Tryd.ntmps69
  go_wp2_with (first | (go_at_call 54; (with_reducible refine (X1.out _ (T0.out.on D0.out.bel)).mono ?_); rintro e wn ⟨rfl, hb⟩; have D1 := Lib.hid ((D0.out).on hb); clear hb; have a0 := D1.out.A.cell 0 _ rfl; have a1 := D1.out.A.cell 1 _ rfl; have a2 := D1.out.A.cell 2 _ rfl; have fa0 := D1.out.A.frozen 0; have fa1 := D1.out.A.frozen 1; have fa2 := D1.out.A.frozen 2; have b0 := D1.out.B.cell 0 _ rfl; have b1 := D1.out.B.cell 1 _ rfl; have b2 := D1.out.B.cell 2 _ rfl; have fb0 := D1.out.B.frozen 0; have fb1 := D1.out.B.frozen 1; have fb2 := D1.out.B.frozen 2; have r0 := D1.out.R.cell 0 _ rfl; have r1 := D1.out.R.cell 1 _ rfl; have r2 := D1.out.R.cell 2 _ rfl; have fr0 := D1.out.R.frozen 0; have fr1 := D1.out.R.frozen 1; have fr2 := D1.out.R.frozen 2) | (go_at_call 54; (with_reducible refine (X2.out _ (T0.out.on D1.out.bel)).mono ?_); rintro e wn ⟨rfl, hb⟩; have D2 := Lib.hid ((D1.out).on hb); clear hb; have a0 := D2.out.A.cell 0 _ rfl; have a1 := D2.out.A.cell 1 _ rfl; have a2 := D2.out.A.cell 2 _ rfl; have fa0 := D2.out.A.frozen 0; have fa1 := D2.out.A.frozen 1; have fa2 := D2.out.A.frozen 2; have b0 := D2.out.B.cell 0 _ rfl; have b1 := D2.out.B.cell 1 _ rfl; have b2 := D2.out.B.cell 2 _ rfl; have fb0 := D2.out.B.frozen 0; have fb1 := D2.out.B.frozen 1; have fb2 := D2.out.B.frozen 2; have r0 := D2.out.R.cell 0 _ rfl; have r1 := D2.out.R.cell 1 _ rfl; have r2 := D2.out.R.cell 2 _ rfl; have fr0 := D2.out.R.frozen 0; have fr1 := D2.out.R.frozen 1; have fr2 := D2.out.R.frozen 2))
  refine bodyPost_ret (results_ct rfl _ _ (w.heap.size + 1 + 1) 32 #[.int .i64 0, .int .i64 0, .string ⟨#[]⟩] (0, 0) _ rfl ((D2.out).put 0 0 _).1 Tryd.underlying32 rfl (by kernel_rfl)) rfl ⟨rfl, ((D2.out).put 0 0 _).2⟩
set_option maxHeartbeats 8000000 in
theorem join2 (k n : Int) (s : ByteArray) (k2 n2 : Int) (s2 : ByteArray) (most : Int) (x1 y1 : ByteArray) (hx : stringF k n s = some (x1, true)) (hy : stringF k2 n2 s2 = some (y1, false)) (w : World) (hT : Tab w) : Calls Tryd.prog 69 #[.agg #[.int .i64 k, .int .i64 n, .string s], .agg #[.int .i64 k2, .int .i64 n2, .string s2], .int .i64 most] w fun e w' => e = .returned (.tuple #[.agg #[.int .i64 0, .int .i64 0, .string ⟨#[]⟩], .int .i64 18]) ∧ Below w.heap.size w w' := by
  have T0 := Lib.hid hT
  clear hT
  have D0 := Lib.hid (D3.start w 32 k n s k2 n2 s2)
  have X1 := Lib.hid (fun W hW => string_calls k n s x1 true W hW hx)
  have X2 := Lib.hid (fun W hW => string_calls k2 n2 s2 y1 false W hW hy)
  clear hx hy
  go_enter Tryd.func69, Tryd.ntmps69
  go_wp2_with (first | (go_at_call 54; (with_reducible refine (X1.out _ (T0.out.on D0.out.bel)).mono ?_); rintro e wn ⟨rfl, hb⟩; have D1 := Lib.hid ((D0.out).on hb); clear hb; have a0 := D1.out.A.cell 0 _ rfl; have a1 := D1.out.A.cell 1 _ rfl; have a2 := D1.out.A.cell 2 _ rfl; have fa0 := D1.out.A.frozen 0; have fa1 := D1.out.A.frozen 1; have fa2 := D1.out.A.frozen 2; have b0 := D1.out.B.cell 0 _ rfl; have b1 := D1.out.B.cell 1 _ rfl; have b2 := D1.out.B.cell 2 _ rfl; have fb0 := D1.out.B.frozen 0; have fb1 := D1.out.B.frozen 1; have fb2 := D1.out.B.frozen 2; have r0 := D1.out.R.cell 0 _ rfl; have r1 := D1.out.R.cell 1 _ rfl; have r2 := D1.out.R.cell 2 _ rfl; have fr0 := D1.out.R.frozen 0; have fr1 := D1.out.R.frozen 1; have fr2 := D1.out.R.frozen 2) | (go_at_call 54; (with_reducible refine (X2.out _ (T0.out.on D1.out.bel)).mono ?_); rintro e wn ⟨rfl, hb⟩; have D2 := Lib.hid ((D1.out).on hb); clear hb; have a0 := D2.out.A.cell 0 _ rfl; have a1 := D2.out.A.cell 1 _ rfl; have a2 := D2.out.A.cell 2 _ rfl; have fa0 := D2.out.A.frozen 0; have fa1 := D2.out.A.frozen 1; have fa2 := D2.out.A.frozen 2; have b0 := D2.out.B.cell 0 _ rfl; have b1 := D2.out.B.cell 1 _ rfl; have b2 := D2.out.B.cell 2 _ rfl; have fb0 := D2.out.B.frozen 0; have fb1 := D2.out.B.frozen 1; have fb2 := D2.out.B.frozen 2; have r0 := D2.out.R.cell 0 _ rfl; have r1 := D2.out.R.cell 1 _ rfl; have r2 := D2.out.R.cell 2 _ rfl; have fr0 := D2.out.R.frozen 0; have fr1 := D2.out.R.frozen 1; have fr2 := D2.out.R.frozen 2))
  refine bodyPost_ret (results_ct rfl _ _ (w.heap.size + 1 + 1) 32 #[.int .i64 0, .int .i64 0, .string ⟨#[]⟩] (0, 0) _ rfl ((D2.out).put 0 0 _).1 Tryd.underlying32 rfl (by kernel_rfl)) rfl ⟨rfl, ((D2.out).put 0 0 _).2⟩
set_option maxHeartbeats 8000000 in
theorem join3 (k n : Int) (s : ByteArray) (k2 n2 : Int) (s2 : ByteArray) (most m : Int) (x1 y1 : ByteArray) (hx : stringF k n s = some (x1, true)) (hy : stringF k2 n2 s2 = some (y1, true)) (hw : wrap64 ((x1.size : Int) + (y1.size : Int)) = (x1.size : Int) + (y1.size : Int)) (hm : (if most < 0 then 0 else most) = m) (hl : decide (m < (x1.size : Int) + (y1.size : Int)) = true) (w : World) (hT : Tab w) : Calls Tryd.prog 69 #[.agg #[.int .i64 k, .int .i64 n, .string s], .agg #[.int .i64 k2, .int .i64 n2, .string s2], .int .i64 most] w fun e w' => e = .returned (.tuple #[.agg #[.int .i64 0, .int .i64 0, .string ⟨#[]⟩], .int .i64 3]) ∧ Below w.heap.size w w' := by
  have T0 := Lib.hid hT
  clear hT
  have D0 := Lib.hid (D3.start w 32 k n s k2 n2 s2)
  have X1 := Lib.hid (fun W hW => string_calls k n s x1 true W hW hx)
  have X2 := Lib.hid (fun W hW => string_calls k2 n2 s2 y1 true W hW hy)
  clear hx hy
  go_enter Tryd.func69, Tryd.ntmps69
  go_wp2_with (first | (go_at_call 54; (with_reducible refine (X1.out _ (T0.out.on D0.out.bel)).mono ?_); rintro e wn ⟨rfl, hb⟩; have D1 := Lib.hid ((D0.out).on hb); clear hb; have a0 := D1.out.A.cell 0 _ rfl; have a1 := D1.out.A.cell 1 _ rfl; have a2 := D1.out.A.cell 2 _ rfl; have fa0 := D1.out.A.frozen 0; have fa1 := D1.out.A.frozen 1; have fa2 := D1.out.A.frozen 2; have b0 := D1.out.B.cell 0 _ rfl; have b1 := D1.out.B.cell 1 _ rfl; have b2 := D1.out.B.cell 2 _ rfl; have fb0 := D1.out.B.frozen 0; have fb1 := D1.out.B.frozen 1; have fb2 := D1.out.B.frozen 2; have r0 := D1.out.R.cell 0 _ rfl; have r1 := D1.out.R.cell 1 _ rfl; have r2 := D1.out.R.cell 2 _ rfl; have fr0 := D1.out.R.frozen 0; have fr1 := D1.out.R.frozen 1; have fr2 := D1.out.R.frozen 2) | (go_at_call 54; (with_reducible refine (X2.out _ (T0.out.on D1.out.bel)).mono ?_); rintro e wn ⟨rfl, hb⟩; have D2 := Lib.hid ((D1.out).on hb); clear hb; have a0 := D2.out.A.cell 0 _ rfl; have a1 := D2.out.A.cell 1 _ rfl; have a2 := D2.out.A.cell 2 _ rfl; have fa0 := D2.out.A.frozen 0; have fa1 := D2.out.A.frozen 1; have fa2 := D2.out.A.frozen 2; have b0 := D2.out.B.cell 0 _ rfl; have b1 := D2.out.B.cell 1 _ rfl; have b2 := D2.out.B.cell 2 _ rfl; have fb0 := D2.out.B.frozen 0; have fb1 := D2.out.B.frozen 1; have fb2 := D2.out.B.frozen 2; have r0 := D2.out.R.cell 0 _ rfl; have r1 := D2.out.R.cell 1 _ rfl; have r2 := D2.out.R.cell 2 _ rfl; have fr0 := D2.out.R.frozen 0; have fr1 := D2.out.R.frozen 1; have fr2 := D2.out.R.frozen 2))
  refine bodyPost_ret (results_ct rfl _ _ (w.heap.size + 1 + 1) 32 #[.int .i64 0, .int .i64 0, .string ⟨#[]⟩] (0, 0) _ rfl ((D2.out).put 0 0 _).1 Tryd.underlying32 rfl (by kernel_rfl)) rfl ⟨rfl, ((D2.out).put 0 0 _).2⟩
set_option maxHeartbeats 8000000 in
theorem join4 (k n : Int) (s : ByteArray) (k2 n2 : Int) (s2 : ByteArray) (most m : Int) (x1 y1 : ByteArray) (hx : stringF k n s = some (x1, true)) (hy : stringF k2 n2 s2 = some (y1, true)) (hw : wrap64 ((x1.size : Int) + (y1.size : Int)) = (x1.size : Int) + (y1.size : Int)) (hm : (if most < 0 then 0 else most) = m) (hl : decide (m < (x1.size : Int) + (y1.size : Int)) = false) (hz : x1.size + y1.size ≤ 9223372036854775807) (w : World) (hT : Tab w) : Calls Tryd.prog 69 #[.agg #[.int .i64 k, .int .i64 n, .string s], .agg #[.int .i64 k2, .int .i64 n2, .string s2], .int .i64 most] w fun e w' => e = .returned (.tuple #[.agg #[.int .i64 3, .int .i64 0, .string (x1 ++ y1)], .int .i64 0]) ∧ Below w.heap.size w w' := by
  have T0 := Lib.hid hT
  clear hT
  have D0 := Lib.hid (D3.start w 32 k n s k2 n2 s2)
  have X1 := Lib.hid (fun W hW => string_calls k n s x1 true W hW hx)
  have X2 := Lib.hid (fun W hW => string_calls k2 n2 s2 y1 true W hW hy)
  have hz2 : (9223372036854775807 < x1.size + y1.size) = False := eq_false (by omega)
  clear hx hy
  go_enter Tryd.func69, Tryd.ntmps69
  go_wp2_with (first | (go_at_call 54; (with_reducible refine (X1.out _ (T0.out.on D0.out.bel)).mono ?_); rintro e wn ⟨rfl, hb⟩; have D1 := Lib.hid ((D0.out).on hb); clear hb; have a0 := D1.out.A.cell 0 _ rfl; have a1 := D1.out.A.cell 1 _ rfl; have a2 := D1.out.A.cell 2 _ rfl; have fa0 := D1.out.A.frozen 0; have fa1 := D1.out.A.frozen 1; have fa2 := D1.out.A.frozen 2; have b0 := D1.out.B.cell 0 _ rfl; have b1 := D1.out.B.cell 1 _ rfl; have b2 := D1.out.B.cell 2 _ rfl; have fb0 := D1.out.B.frozen 0; have fb1 := D1.out.B.frozen 1; have fb2 := D1.out.B.frozen 2; have r0 := D1.out.R.cell 0 _ rfl; have r1 := D1.out.R.cell 1 _ rfl; have r2 := D1.out.R.cell 2 _ rfl; have fr0 := D1.out.R.frozen 0; have fr1 := D1.out.R.frozen 1; have fr2 := D1.out.R.frozen 2) | (go_at_call 54; (with_reducible refine (X2.out _ (T0.out.on D1.out.bel)).mono ?_); rintro e wn ⟨rfl, hb⟩; have D2 := Lib.hid ((D1.out).on hb); clear hb; have a0 := D2.out.A.cell 0 _ rfl; have a1 := D2.out.A.cell 1 _ rfl; have a2 := D2.out.A.cell 2 _ rfl; have fa0 := D2.out.A.frozen 0; have fa1 := D2.out.A.frozen 1; have fa2 := D2.out.A.frozen 2; have b0 := D2.out.B.cell 0 _ rfl; have b1 := D2.out.B.cell 1 _ rfl; have b2 := D2.out.B.cell 2 _ rfl; have fb0 := D2.out.B.frozen 0; have fb1 := D2.out.B.frozen 1; have fb2 := D2.out.B.frozen 2; have r0 := D2.out.R.cell 0 _ rfl; have r1 := D2.out.R.cell 1 _ rfl; have r2 := D2.out.R.cell 2 _ rfl; have fr0 := D2.out.R.frozen 0; have fr1 := D2.out.R.frozen 1; have fr2 := D2.out.R.frozen 2) | (go_at_call 55; (with_reducible refine (hStr _ _).mono ?_); rintro e wn ⟨rfl, hb⟩; have D3 := Lib.hid ((D2.out).on hb); clear hb; have a0 := D3.out.A.cell 0 _ rfl; have a1 := D3.out.A.cell 1 _ rfl; have a2 := D3.out.A.cell 2 _ rfl; have fa0 := D3.out.A.frozen 0; have fa1 := D3.out.A.frozen 1; have fa2 := D3.out.A.frozen 2; have b0 := D3.out.B.cell 0 _ rfl; have b1 := D3.out.B.cell 1 _ rfl; have b2 := D3.out.B.cell 2 _ rfl; have fb0 := D3.out.B.frozen 0; have fb1 := D3.out.B.frozen 1; have fb2 := D3.out.B.frozen 2; have r0 := D3.out.R.cell 0 _ rfl; have r1 := D3.out.R.cell 1 _ rfl; have r2 := D3.out.R.cell 2 _ rfl; have fr0 := D3.out.R.frozen 0; have fr1 := D3.out.R.frozen 1; have fr2 := D3.out.R.frozen 2))
  refine bodyPost_ret (results_ct rfl _ _ (w.heap.size + 1 + 1) 32 #[.int .i64 3, .int .i64 0, .string (x1 ++ y1)] (0, 0) _ rfl ((D3.out).put 3 0 _).1 Tryd.underlying32 rfl (by kernel_rfl)) rfl ⟨rfl, ((D3.out).put 3 0 _).2⟩
theorem hJoin (k n : Int) (s : ByteArray) (k2 n2 : Int) (s2 : ByteArray) (most : Int) (hn : inR n) (hn2 : inR n2) (hs : s.size ≤ 140737488351232) (hs2 : s2.size ≤ 140737488351232) (w : World) (hT : Tab w) : Calls Tryd.prog 69 #[.agg #[.int .i64 k, .int .i64 n, .string s], .agg #[.int .i64 k2, .int .i64 n2, .string s2], .int .i64 most] w fun e w' => e = .returned (.tuple #[.agg #[.int .i64 (joinT (stringT k n s) (stringT k2 n2 s2) most).1, .int .i64 (joinT (stringT k n s) (stringT k2 n2 s2) most).2.1, .string (joinT (stringT k n s) (stringT k2 n2 s2) most).2.2.1], .int .i64 (joinT (stringT k n s) (stringT k2 n2 s2) most).2.2.2]) ∧ Below w.heap.size w w' := by
  have h1 := stringT_size k n s hn hs
  have h2 := stringT_size k2 n2 s2 hn2 hs2
  have hx : stringF k n s = some (stringT k n s) := by unfold stringF; rw [if_pos hn]
  have hy : stringF k2 n2 s2 = some (stringT k2 n2 s2) := by unfold stringF; rw [if_pos hn2]
  generalize stringT k n s = x at *
  generalize stringT k2 n2 s2 = y at *
  obtain ⟨x1, x2⟩ := x
  obtain ⟨y1, y2⟩ := y
  have h1 : x1.size ≤ 140737488351232 := h1
  have h2 : y1.size ≤ 140737488351232 := h2
  have hw : wrap64 ((x1.size : Int) + (y1.size : Int)) = (x1.size : Int) + (y1.size : Int) := wrap64_in (by omega)
  unfold joinT no
  dsimp only
  cases x2
  · rw [if_neg (fun h => by cases h.1)]
    exact join1 k n s k2 n2 s2 most x1 y1 y2 hx hy w hT
  · cases y2
    · rw [if_neg (fun h => by cases h.2)]
      exact join2 k n s k2 n2 s2 most x1 y1 hx hy w hT
    · rw [if_pos ⟨rfl, rfl⟩]
      by_cases hl : (x1.size : Int) + (y1.size : Int) > mx most 0
      · rw [if_pos hl]
        exact join3 k n s k2 n2 s2 most _ x1 y1 hx hy hw rfl (decide_eq_true hl) w hT
      · rw [if_neg hl]
        exact join4 k n s k2 n2 s2 most _ x1 y1 hx hy hw rfl (decide_eq_false hl) (by omega) w hT
set_option maxHeartbeats 8000000 in
theorem do11 (k n : Int) (s : ByteArray) (k2 n2 : Int) (s2 : ByteArray) (most j1 j2 j4 : Int) (j3 : ByteArray) (hj : ∀ W, Tab W → Calls Tryd.prog 69 #[.agg #[.int .i64 k, .int .i64 n, .string s], .agg #[.int .i64 k2, .int .i64 n2, .string s2], .int .i64 most] W fun e w' => e = .returned (.tuple #[.agg #[.int .i64 j1, .int .i64 j2, .string j3], .int .i64 j4]) ∧ Below W.heap.size W w') (w : World) (hT : Tab w) : Calls Tryd.prog 46 #[.int .i64 11, .agg #[.int .i64 k, .int .i64 n, .string s], .agg #[.int .i64 k2, .int .i64 n2, .string s2], .int .i64 most] w fun e w' => e = .returned (.tuple #[.agg #[.int .i64 j1, .int .i64 j2, .string j3], .int .i64 j4]) ∧ Below w.heap.size w w' := by
  have T0 := Lib.hid hT
  clear hT
  have D0 := Lib.hid (D3.start w 32 k n s k2 n2 s2)
  have SW := Lib.hid (fun W => hSwap (11) (11) false false W (Or.inr (.inr (.inr ⟨by omega, by omega, by omega, rfl, rfl, rfl⟩))))
  have HJ := Lib.hid hj
  clear hj
  go_enter Tryd.func46, Tryd.ntmps46
  go_wp2_with (first | (go_at_call 48; (with_reducible refine (SW.out _).mono ?_); rintro e wn ⟨rfl, hb⟩; have D1 := Lib.hid ((D0.out).on hb); clear hb; have a0 := D1.out.A.cell 0 _ rfl; have a1 := D1.out.A.cell 1 _ rfl; have a2 := D1.out.A.cell 2 _ rfl; have fa0 := D1.out.A.frozen 0; have fa1 := D1.out.A.frozen 1; have fa2 := D1.out.A.frozen 2; have b0 := D1.out.B.cell 0 _ rfl; have b1 := D1.out.B.cell 1 _ rfl; have b2 := D1.out.B.cell 2 _ rfl; have fb0 := D1.out.B.frozen 0; have fb1 := D1.out.B.frozen 1; have fb2 := D1.out.B.frozen 2; have r0 := D1.out.R.cell 0 _ rfl; have r1 := D1.out.R.cell 1 _ rfl; have r2 := D1.out.R.cell 2 _ rfl; have fr0 := D1.out.R.frozen 0; have fr1 := D1.out.R.frozen 1; have fr2 := D1.out.R.frozen 2) | (go_at_call 69; (with_reducible refine (HJ.out _ (T0.out.on D1.out.bel)).mono ?_); rintro e wn ⟨rfl, hb⟩; have D2 := Lib.hid ((D1.out).on hb); clear hb; have a0 := D2.out.A.cell 0 _ rfl; have a1 := D2.out.A.cell 1 _ rfl; have a2 := D2.out.A.cell 2 _ rfl; have fa0 := D2.out.A.frozen 0; have fa1 := D2.out.A.frozen 1; have fa2 := D2.out.A.frozen 2; have b0 := D2.out.B.cell 0 _ rfl; have b1 := D2.out.B.cell 1 _ rfl; have b2 := D2.out.B.cell 2 _ rfl; have fb0 := D2.out.B.frozen 0; have fb1 := D2.out.B.frozen 1; have fb2 := D2.out.B.frozen 2; have r0 := D2.out.R.cell 0 _ rfl; have r1 := D2.out.R.cell 1 _ rfl; have r2 := D2.out.R.cell 2 _ rfl; have fr0 := D2.out.R.frozen 0; have fr1 := D2.out.R.frozen 1; have fr2 := D2.out.R.frozen 2))
  refine bodyPost_ret (results_ct rfl _ _ (w.heap.size + 1 + 1) 32 #[.int .i64 j1, .int .i64 j2, .string j3] (0, 0) _ rfl ((D2.out).put j1 j2 j3).1 Tryd.underlying32 rfl (by kernel_rfl)) rfl ⟨rfl, ((D2.out).put j1 j2 j3).2⟩
set_option maxHeartbeats 8000000 in
theorem doAr (k n : Int) (s : ByteArray) (k2 n2 : Int) (s2 : ByteArray) (op most j1 j2 j4 : Int) (j3 : ByteArray) (h1 : decide (op < 1) = false) (h2 : decide (10 < op) = false) (e11 : (op == 11) = false) (e12 : (op == 12) = false) (e15 : (op == 15) = false) (e14 : (op == 14) = false) (hs : ∀ W, Calls Tryd.prog 48 #[.int .i64 op] W fun e w' => e = .returned (.tuple #[.int .i64 op, .bool false, .bool false]) ∧ Below W.heap.size W w') (hj : ∀ W, Tab W → Calls Tryd.prog 72 #[.int .i64 op, .agg #[.int .i64 k, .int .i64 n, .string s], .agg #[.int .i64 k2, .int .i64 n2, .string s2]] W fun e w' => e = .returned (.tuple #[.agg #[.int .i64 j1, .int .i64 j2, .string j3], .int .i64 j4]) ∧ Below W.heap.size W w') (w : World) (hT : Tab w) : Calls Tryd.prog 46 #[.int .i64 op, .agg #[.int .i64 k, .int .i64 n, .string s], .agg #[.int .i64 k2, .int .i64 n2, .string s2], .int .i64 most] w fun e w' => e = .returned (.tuple #[.agg #[.int .i64 j1, .int .i64 j2, .string j3], .int .i64 j4]) ∧ Below w.heap.size w w' := by
  have T0 := Lib.hid hT
  clear hT
  have D0 := Lib.hid (D3.start w 32 k n s k2 n2 s2)
  have SW := Lib.hid hs
  have HJ := Lib.hid hj
  clear hj hs
  go_enter Tryd.func46, Tryd.ntmps46
  go_wp2_with (first | (go_at_call 48; (with_reducible refine (SW.out _).mono ?_); rintro e wn ⟨rfl, hb⟩; have D1 := Lib.hid ((D0.out).on hb); clear hb; have a0 := D1.out.A.cell 0 _ rfl; have a1 := D1.out.A.cell 1 _ rfl; have a2 := D1.out.A.cell 2 _ rfl; have fa0 := D1.out.A.frozen 0; have fa1 := D1.out.A.frozen 1; have fa2 := D1.out.A.frozen 2; have b0 := D1.out.B.cell 0 _ rfl; have b1 := D1.out.B.cell 1 _ rfl; have b2 := D1.out.B.cell 2 _ rfl; have fb0 := D1.out.B.frozen 0; have fb1 := D1.out.B.frozen 1; have fb2 := D1.out.B.frozen 2; have r0 := D1.out.R.cell 0 _ rfl; have r1 := D1.out.R.cell 1 _ rfl; have r2 := D1.out.R.cell 2 _ rfl; have fr0 := D1.out.R.frozen 0; have fr1 := D1.out.R.frozen 1; have fr2 := D1.out.R.frozen 2) | (go_at_call 72; (with_reducible refine (HJ.out _ (T0.out.on D1.out.bel)).mono ?_); rintro e wn ⟨rfl, hb⟩; have D2 := Lib.hid ((D1.out).on hb); clear hb; have a0 := D2.out.A.cell 0 _ rfl; have a1 := D2.out.A.cell 1 _ rfl; have a2 := D2.out.A.cell 2 _ rfl; have fa0 := D2.out.A.frozen 0; have fa1 := D2.out.A.frozen 1; have fa2 := D2.out.A.frozen 2; have b0 := D2.out.B.cell 0 _ rfl; have b1 := D2.out.B.cell 1 _ rfl; have b2 := D2.out.B.cell 2 _ rfl; have fb0 := D2.out.B.frozen 0; have fb1 := D2.out.B.frozen 1; have fb2 := D2.out.B.frozen 2; have r0 := D2.out.R.cell 0 _ rfl; have r1 := D2.out.R.cell 1 _ rfl; have r2 := D2.out.R.cell 2 _ rfl; have fr0 := D2.out.R.frozen 0; have fr1 := D2.out.R.frozen 1; have fr2 := D2.out.R.frozen 2))
  refine bodyPost_ret (results_ct rfl _ _ (w.heap.size + 1 + 1) 32 #[.int .i64 j1, .int .i64 j2, .string j3] (0, 0) _ rfl ((D2.out).put j1 j2 j3).1 Tryd.underlying32 rfl (by kernel_rfl)) rfl ⟨rfl, ((D2.out).put j1 j2 j3).2⟩
set_option maxHeartbeats 8000000 in
theorem doLo (k n : Int) (s : ByteArray) (k2 n2 : Int) (s2 : ByteArray) (op most : Int) (h1 : decide (op < 1) = true) (e11 : (op == 11) = false) (e12 : (op == 12) = false) (e15 : (op == 15) = false) (e14 : (op == 14) = false) (hs : ∀ W, Calls Tryd.prog 48 #[.int .i64 op] W fun e w' => e = .returned (.tuple #[.int .i64 op, .bool false, .bool false]) ∧ Below W.heap.size W w') (w : World) (hT : Tab w) : Calls Tryd.prog 46 #[.int .i64 op, .agg #[.int .i64 k, .int .i64 n, .string s], .agg #[.int .i64 k2, .int .i64 n2, .string s2], .int .i64 most] w fun e w' => e = .returned (.tuple #[.agg #[.int .i64 0, .int .i64 0, .string ⟨#[]⟩], .int .i64 1]) ∧ Below w.heap.size w w' := by
  have T0 := Lib.hid hT
  clear hT
  have D0 := Lib.hid (D3.start w 32 k n s k2 n2 s2)
  have SW := Lib.hid hs
  clear hs
  go_enter Tryd.func46, Tryd.ntmps46
  go_wp2_with (first | (go_at_call 48; (with_reducible refine (SW.out _).mono ?_); rintro e wn ⟨rfl, hb⟩; have D1 := Lib.hid ((D0.out).on hb); clear hb; have a0 := D1.out.A.cell 0 _ rfl; have a1 := D1.out.A.cell 1 _ rfl; have a2 := D1.out.A.cell 2 _ rfl; have fa0 := D1.out.A.frozen 0; have fa1 := D1.out.A.frozen 1; have fa2 := D1.out.A.frozen 2; have b0 := D1.out.B.cell 0 _ rfl; have b1 := D1.out.B.cell 1 _ rfl; have b2 := D1.out.B.cell 2 _ rfl; have fb0 := D1.out.B.frozen 0; have fb1 := D1.out.B.frozen 1; have fb2 := D1.out.B.frozen 2; have r0 := D1.out.R.cell 0 _ rfl; have r1 := D1.out.R.cell 1 _ rfl; have r2 := D1.out.R.cell 2 _ rfl; have fr0 := D1.out.R.frozen 0; have fr1 := D1.out.R.frozen 1; have fr2 := D1.out.R.frozen 2) | fail)
  refine bodyPost_ret (results_ct rfl _ _ (w.heap.size + 1 + 1) 32 #[.int .i64 0, .int .i64 0, .string ⟨#[]⟩] (0, 0) _ rfl ((D1.out).put 0 0 _).1 Tryd.underlying32 rfl (by kernel_rfl)) rfl ⟨rfl, ((D1.out).put 0 0 _).2⟩
set_option maxHeartbeats 8000000 in
theorem doHi (k n : Int) (s : ByteArray) (k2 n2 : Int) (s2 : ByteArray) (op most : Int) (h1 : decide (op < 1) = false) (h2 : decide (10 < op) = true) (e11 : (op == 11) = false) (e12 : (op == 12) = false) (e15 : (op == 15) = false) (e14 : (op == 14) = false) (hs : ∀ W, Calls Tryd.prog 48 #[.int .i64 op] W fun e w' => e = .returned (.tuple #[.int .i64 op, .bool false, .bool false]) ∧ Below W.heap.size W w') (w : World) (hT : Tab w) : Calls Tryd.prog 46 #[.int .i64 op, .agg #[.int .i64 k, .int .i64 n, .string s], .agg #[.int .i64 k2, .int .i64 n2, .string s2], .int .i64 most] w fun e w' => e = .returned (.tuple #[.agg #[.int .i64 0, .int .i64 0, .string ⟨#[]⟩], .int .i64 1]) ∧ Below w.heap.size w w' := by
  have T0 := Lib.hid hT
  clear hT
  have D0 := Lib.hid (D3.start w 32 k n s k2 n2 s2)
  have SW := Lib.hid hs
  clear hs
  go_enter Tryd.func46, Tryd.ntmps46
  go_wp2_with (first | (go_at_call 48; (with_reducible refine (SW.out _).mono ?_); rintro e wn ⟨rfl, hb⟩; have D1 := Lib.hid ((D0.out).on hb); clear hb; have a0 := D1.out.A.cell 0 _ rfl; have a1 := D1.out.A.cell 1 _ rfl; have a2 := D1.out.A.cell 2 _ rfl; have fa0 := D1.out.A.frozen 0; have fa1 := D1.out.A.frozen 1; have fa2 := D1.out.A.frozen 2; have b0 := D1.out.B.cell 0 _ rfl; have b1 := D1.out.B.cell 1 _ rfl; have b2 := D1.out.B.cell 2 _ rfl; have fb0 := D1.out.B.frozen 0; have fb1 := D1.out.B.frozen 1; have fb2 := D1.out.B.frozen 2; have r0 := D1.out.R.cell 0 _ rfl; have r1 := D1.out.R.cell 1 _ rfl; have r2 := D1.out.R.cell 2 _ rfl; have fr0 := D1.out.R.frozen 0; have fr1 := D1.out.R.frozen 1; have fr2 := D1.out.R.frozen 2) | fail)
  refine bodyPost_ret (results_ct rfl _ _ (w.heap.size + 1 + 1) 32 #[.int .i64 0, .int .i64 0, .string ⟨#[]⟩] (0, 0) _ rfl ((D1.out).put 0 0 _).1 Tryd.underlying32 rfl (by kernel_rfl)) rfl ⟨rfl, ((D1.out).put 0 0 _).2⟩
theorem hBtrue (w : World) : Calls Tryd.prog 49 #[.bool true] w fun e w' => e = .returned (.agg #[.int .i64 1, .int .i64 1, .string ⟨#[]⟩]) ∧ Below w.heap.size w w' := hBool true w
theorem hBfalse (w : World) : Calls Tryd.prog 49 #[.bool false] w fun e w' => e = .returned (.agg #[.int .i64 1, .int .i64 0, .string ⟨#[]⟩]) ∧ Below w.heap.size w w' := hBool false w
set_option maxHeartbeats 8000000 in
theorem do12false (k n : Int) (s : ByteArray) (k2 n2 : Int) (s2 : ByteArray) (most : Int) (hr : rawB k n s k2 n2 s2 = false) (w : World) (hT : Tab w) : Calls Tryd.prog 46 #[.int .i64 12, .agg #[.int .i64 k, .int .i64 n, .string s], .agg #[.int .i64 k2, .int .i64 n2, .string s2], .int .i64 most] w fun e w' => e = .returned (.tuple #[.agg #[.int .i64 1, .int .i64 0, .string ⟨#[]⟩], .int .i64 0]) ∧ Below w.heap.size w w' := by
  have T0 := Lib.hid hT
  clear hT
  have D0 := Lib.hid (D3.start w 32 k n s k2 n2 s2)
  have SW := Lib.hid (fun W => hSwap (12) (12) false false W (Or.inr (.inr (.inr ⟨by omega, by omega, by omega, rfl, rfl, rfl⟩))))
  have HR := Lib.hid (fun W => hRaw k n s k2 n2 s2 W)
  rw [hr] at HR
  clear hr
  go_enter Tryd.func46, Tryd.ntmps46
  go_wp2_with (first | (go_at_call 48; (with_reducible refine (SW.out _).mono ?_); rintro e wn ⟨rfl, hb⟩; have D1 := Lib.hid ((D0.out).on hb); clear hb; have a0 := D1.out.A.cell 0 _ rfl; have a1 := D1.out.A.cell 1 _ rfl; have a2 := D1.out.A.cell 2 _ rfl; have fa0 := D1.out.A.frozen 0; have fa1 := D1.out.A.frozen 1; have fa2 := D1.out.A.frozen 2; have b0 := D1.out.B.cell 0 _ rfl; have b1 := D1.out.B.cell 1 _ rfl; have b2 := D1.out.B.cell 2 _ rfl; have fb0 := D1.out.B.frozen 0; have fb1 := D1.out.B.frozen 1; have fb2 := D1.out.B.frozen 2; have r0 := D1.out.R.cell 0 _ rfl; have r1 := D1.out.R.cell 1 _ rfl; have r2 := D1.out.R.cell 2 _ rfl; have fr0 := D1.out.R.frozen 0; have fr1 := D1.out.R.frozen 1; have fr2 := D1.out.R.frozen 2) | (go_at_call 70; (with_reducible refine (HR.out _).mono ?_); rintro e wn ⟨rfl, hb⟩; have D2 := Lib.hid ((D1.out).on hb); clear hb; have a0 := D2.out.A.cell 0 _ rfl; have a1 := D2.out.A.cell 1 _ rfl; have a2 := D2.out.A.cell 2 _ rfl; have fa0 := D2.out.A.frozen 0; have fa1 := D2.out.A.frozen 1; have fa2 := D2.out.A.frozen 2; have b0 := D2.out.B.cell 0 _ rfl; have b1 := D2.out.B.cell 1 _ rfl; have b2 := D2.out.B.cell 2 _ rfl; have fb0 := D2.out.B.frozen 0; have fb1 := D2.out.B.frozen 1; have fb2 := D2.out.B.frozen 2; have r0 := D2.out.R.cell 0 _ rfl; have r1 := D2.out.R.cell 1 _ rfl; have r2 := D2.out.R.cell 2 _ rfl; have fr0 := D2.out.R.frozen 0; have fr1 := D2.out.R.frozen 1; have fr2 := D2.out.R.frozen 2) | (go_at_call 49; (with_reducible refine (hBfalse _).mono ?_); rintro e wn ⟨rfl, hb⟩; have D3 := Lib.hid ((D2.out).on hb); clear hb; have a0 := D3.out.A.cell 0 _ rfl; have a1 := D3.out.A.cell 1 _ rfl; have a2 := D3.out.A.cell 2 _ rfl; have fa0 := D3.out.A.frozen 0; have fa1 := D3.out.A.frozen 1; have fa2 := D3.out.A.frozen 2; have b0 := D3.out.B.cell 0 _ rfl; have b1 := D3.out.B.cell 1 _ rfl; have b2 := D3.out.B.cell 2 _ rfl; have fb0 := D3.out.B.frozen 0; have fb1 := D3.out.B.frozen 1; have fb2 := D3.out.B.frozen 2; have r0 := D3.out.R.cell 0 _ rfl; have r1 := D3.out.R.cell 1 _ rfl; have r2 := D3.out.R.cell 2 _ rfl; have fr0 := D3.out.R.frozen 0; have fr1 := D3.out.R.frozen 1; have fr2 := D3.out.R.frozen 2))
  refine bodyPost_ret (results_ct rfl _ _ (w.heap.size + 1 + 1) 32 #[.int .i64 1, .int .i64 0, .string ⟨#[]⟩] (0, 0) _ rfl ((D3.out).put 1 0 _).1 Tryd.underlying32 rfl (by kernel_rfl)) rfl ⟨rfl, ((D3.out).put 1 0 _).2⟩
set_option maxHeartbeats 8000000 in
theorem do12true (k n : Int) (s : ByteArray) (k2 n2 : Int) (s2 : ByteArray) (most : Int) (hr : rawB k n s k2 n2 s2 = true) (w : World) (hT : Tab w) : Calls Tryd.prog 46 #[.int .i64 12, .agg #[.int .i64 k, .int .i64 n, .string s], .agg #[.int .i64 k2, .int .i64 n2, .string s2], .int .i64 most] w fun e w' => e = .returned (.tuple #[.agg #[.int .i64 1, .int .i64 1, .string ⟨#[]⟩], .int .i64 0]) ∧ Below w.heap.size w w' := by
  have T0 := Lib.hid hT
  clear hT
  have D0 := Lib.hid (D3.start w 32 k n s k2 n2 s2)
  have SW := Lib.hid (fun W => hSwap (12) (12) false false W (Or.inr (.inr (.inr ⟨by omega, by omega, by omega, rfl, rfl, rfl⟩))))
  have HR := Lib.hid (fun W => hRaw k n s k2 n2 s2 W)
  rw [hr] at HR
  clear hr
  go_enter Tryd.func46, Tryd.ntmps46
  go_wp2_with (first | (go_at_call 48; (with_reducible refine (SW.out _).mono ?_); rintro e wn ⟨rfl, hb⟩; have D1 := Lib.hid ((D0.out).on hb); clear hb; have a0 := D1.out.A.cell 0 _ rfl; have a1 := D1.out.A.cell 1 _ rfl; have a2 := D1.out.A.cell 2 _ rfl; have fa0 := D1.out.A.frozen 0; have fa1 := D1.out.A.frozen 1; have fa2 := D1.out.A.frozen 2; have b0 := D1.out.B.cell 0 _ rfl; have b1 := D1.out.B.cell 1 _ rfl; have b2 := D1.out.B.cell 2 _ rfl; have fb0 := D1.out.B.frozen 0; have fb1 := D1.out.B.frozen 1; have fb2 := D1.out.B.frozen 2; have r0 := D1.out.R.cell 0 _ rfl; have r1 := D1.out.R.cell 1 _ rfl; have r2 := D1.out.R.cell 2 _ rfl; have fr0 := D1.out.R.frozen 0; have fr1 := D1.out.R.frozen 1; have fr2 := D1.out.R.frozen 2) | (go_at_call 70; (with_reducible refine (HR.out _).mono ?_); rintro e wn ⟨rfl, hb⟩; have D2 := Lib.hid ((D1.out).on hb); clear hb; have a0 := D2.out.A.cell 0 _ rfl; have a1 := D2.out.A.cell 1 _ rfl; have a2 := D2.out.A.cell 2 _ rfl; have fa0 := D2.out.A.frozen 0; have fa1 := D2.out.A.frozen 1; have fa2 := D2.out.A.frozen 2; have b0 := D2.out.B.cell 0 _ rfl; have b1 := D2.out.B.cell 1 _ rfl; have b2 := D2.out.B.cell 2 _ rfl; have fb0 := D2.out.B.frozen 0; have fb1 := D2.out.B.frozen 1; have fb2 := D2.out.B.frozen 2; have r0 := D2.out.R.cell 0 _ rfl; have r1 := D2.out.R.cell 1 _ rfl; have r2 := D2.out.R.cell 2 _ rfl; have fr0 := D2.out.R.frozen 0; have fr1 := D2.out.R.frozen 1; have fr2 := D2.out.R.frozen 2) | (go_at_call 49; (with_reducible refine (hBtrue _).mono ?_); rintro e wn ⟨rfl, hb⟩; have D3 := Lib.hid ((D2.out).on hb); clear hb; have a0 := D3.out.A.cell 0 _ rfl; have a1 := D3.out.A.cell 1 _ rfl; have a2 := D3.out.A.cell 2 _ rfl; have fa0 := D3.out.A.frozen 0; have fa1 := D3.out.A.frozen 1; have fa2 := D3.out.A.frozen 2; have b0 := D3.out.B.cell 0 _ rfl; have b1 := D3.out.B.cell 1 _ rfl; have b2 := D3.out.B.cell 2 _ rfl; have fb0 := D3.out.B.frozen 0; have fb1 := D3.out.B.frozen 1; have fb2 := D3.out.B.frozen 2; have r0 := D3.out.R.cell 0 _ rfl; have r1 := D3.out.R.cell 1 _ rfl; have r2 := D3.out.R.cell 2 _ rfl; have fr0 := D3.out.R.frozen 0; have fr1 := D3.out.R.frozen 1; have fr2 := D3.out.R.frozen 2))
  refine bodyPost_ret (results_ct rfl _ _ (w.heap.size + 1 + 1) 32 #[.int .i64 1, .int .i64 1, .string ⟨#[]⟩] (0, 0) _ rfl ((D3.out).put 1 1 _).1 Tryd.underlying32 rfl (by kernel_rfl)) rfl ⟨rfl, ((D3.out).put 1 1 _).2⟩
set_option maxHeartbeats 8000000 in
theorem do13false (k n : Int) (s : ByteArray) (k2 n2 : Int) (s2 : ByteArray) (most : Int) (hr : rawB k n s k2 n2 s2 = false) (w : World) (hT : Tab w) : Calls Tryd.prog 46 #[.int .i64 13, .agg #[.int .i64 k, .int .i64 n, .string s], .agg #[.int .i64 k2, .int .i64 n2, .string s2], .int .i64 most] w fun e w' => e = .returned (.tuple #[.agg #[.int .i64 1, .int .i64 1, .string ⟨#[]⟩], .int .i64 0]) ∧ Below w.heap.size w w' := by
  have T0 := Lib.hid hT
  clear hT
  have D0 := Lib.hid (D3.start w 32 k n s k2 n2 s2)
  have SW := Lib.hid (fun W => hSwap (13) (12) false true W (Or.inr (.inr (.inl ⟨rfl, rfl, rfl, rfl⟩))))
  have HR := Lib.hid (fun W => hRaw k n s k2 n2 s2 W)
  rw [hr] at HR
  clear hr
  go_enter Tryd.func46, Tryd.ntmps46
  go_wp2_with (first | (go_at_call 48; (with_reducible refine (SW.out _).mono ?_); rintro e wn ⟨rfl, hb⟩; have D1 := Lib.hid ((D0.out).on hb); clear hb; have a0 := D1.out.A.cell 0 _ rfl; have a1 := D1.out.A.cell 1 _ rfl; have a2 := D1.out.A.cell 2 _ rfl; have fa0 := D1.out.A.frozen 0; have fa1 := D1.out.A.frozen 1; have fa2 := D1.out.A.frozen 2; have b0 := D1.out.B.cell 0 _ rfl; have b1 := D1.out.B.cell 1 _ rfl; have b2 := D1.out.B.cell 2 _ rfl; have fb0 := D1.out.B.frozen 0; have fb1 := D1.out.B.frozen 1; have fb2 := D1.out.B.frozen 2; have r0 := D1.out.R.cell 0 _ rfl; have r1 := D1.out.R.cell 1 _ rfl; have r2 := D1.out.R.cell 2 _ rfl; have fr0 := D1.out.R.frozen 0; have fr1 := D1.out.R.frozen 1; have fr2 := D1.out.R.frozen 2) | (go_at_call 70; (with_reducible refine (HR.out _).mono ?_); rintro e wn ⟨rfl, hb⟩; have D2 := Lib.hid ((D1.out).on hb); clear hb; have a0 := D2.out.A.cell 0 _ rfl; have a1 := D2.out.A.cell 1 _ rfl; have a2 := D2.out.A.cell 2 _ rfl; have fa0 := D2.out.A.frozen 0; have fa1 := D2.out.A.frozen 1; have fa2 := D2.out.A.frozen 2; have b0 := D2.out.B.cell 0 _ rfl; have b1 := D2.out.B.cell 1 _ rfl; have b2 := D2.out.B.cell 2 _ rfl; have fb0 := D2.out.B.frozen 0; have fb1 := D2.out.B.frozen 1; have fb2 := D2.out.B.frozen 2; have r0 := D2.out.R.cell 0 _ rfl; have r1 := D2.out.R.cell 1 _ rfl; have r2 := D2.out.R.cell 2 _ rfl; have fr0 := D2.out.R.frozen 0; have fr1 := D2.out.R.frozen 1; have fr2 := D2.out.R.frozen 2) | (go_at_call 49; (with_reducible refine (hBtrue _).mono ?_); rintro e wn ⟨rfl, hb⟩; have D3 := Lib.hid ((D2.out).on hb); clear hb; have a0 := D3.out.A.cell 0 _ rfl; have a1 := D3.out.A.cell 1 _ rfl; have a2 := D3.out.A.cell 2 _ rfl; have fa0 := D3.out.A.frozen 0; have fa1 := D3.out.A.frozen 1; have fa2 := D3.out.A.frozen 2; have b0 := D3.out.B.cell 0 _ rfl; have b1 := D3.out.B.cell 1 _ rfl; have b2 := D3.out.B.cell 2 _ rfl; have fb0 := D3.out.B.frozen 0; have fb1 := D3.out.B.frozen 1; have fb2 := D3.out.B.frozen 2; have r0 := D3.out.R.cell 0 _ rfl; have r1 := D3.out.R.cell 1 _ rfl; have r2 := D3.out.R.cell 2 _ rfl; have fr0 := D3.out.R.frozen 0; have fr1 := D3.out.R.frozen 1; have fr2 := D3.out.R.frozen 2))
  refine bodyPost_ret (results_ct rfl _ _ (w.heap.size + 1 + 1) 32 #[.int .i64 1, .int .i64 1, .string ⟨#[]⟩] (0, 0) _ rfl ((D3.out).put 1 1 _).1 Tryd.underlying32 rfl (by kernel_rfl)) rfl ⟨rfl, ((D3.out).put 1 1 _).2⟩
set_option maxHeartbeats 8000000 in
theorem do13true (k n : Int) (s : ByteArray) (k2 n2 : Int) (s2 : ByteArray) (most : Int) (hr : rawB k n s k2 n2 s2 = true) (w : World) (hT : Tab w) : Calls Tryd.prog 46 #[.int .i64 13, .agg #[.int .i64 k, .int .i64 n, .string s], .agg #[.int .i64 k2, .int .i64 n2, .string s2], .int .i64 most] w fun e w' => e = .returned (.tuple #[.agg #[.int .i64 1, .int .i64 0, .string ⟨#[]⟩], .int .i64 0]) ∧ Below w.heap.size w w' := by
  have T0 := Lib.hid hT
  clear hT
  have D0 := Lib.hid (D3.start w 32 k n s k2 n2 s2)
  have SW := Lib.hid (fun W => hSwap (13) (12) false true W (Or.inr (.inr (.inl ⟨rfl, rfl, rfl, rfl⟩))))
  have HR := Lib.hid (fun W => hRaw k n s k2 n2 s2 W)
  rw [hr] at HR
  clear hr
  go_enter Tryd.func46, Tryd.ntmps46
  go_wp2_with (first | (go_at_call 48; (with_reducible refine (SW.out _).mono ?_); rintro e wn ⟨rfl, hb⟩; have D1 := Lib.hid ((D0.out).on hb); clear hb; have a0 := D1.out.A.cell 0 _ rfl; have a1 := D1.out.A.cell 1 _ rfl; have a2 := D1.out.A.cell 2 _ rfl; have fa0 := D1.out.A.frozen 0; have fa1 := D1.out.A.frozen 1; have fa2 := D1.out.A.frozen 2; have b0 := D1.out.B.cell 0 _ rfl; have b1 := D1.out.B.cell 1 _ rfl; have b2 := D1.out.B.cell 2 _ rfl; have fb0 := D1.out.B.frozen 0; have fb1 := D1.out.B.frozen 1; have fb2 := D1.out.B.frozen 2; have r0 := D1.out.R.cell 0 _ rfl; have r1 := D1.out.R.cell 1 _ rfl; have r2 := D1.out.R.cell 2 _ rfl; have fr0 := D1.out.R.frozen 0; have fr1 := D1.out.R.frozen 1; have fr2 := D1.out.R.frozen 2) | (go_at_call 70; (with_reducible refine (HR.out _).mono ?_); rintro e wn ⟨rfl, hb⟩; have D2 := Lib.hid ((D1.out).on hb); clear hb; have a0 := D2.out.A.cell 0 _ rfl; have a1 := D2.out.A.cell 1 _ rfl; have a2 := D2.out.A.cell 2 _ rfl; have fa0 := D2.out.A.frozen 0; have fa1 := D2.out.A.frozen 1; have fa2 := D2.out.A.frozen 2; have b0 := D2.out.B.cell 0 _ rfl; have b1 := D2.out.B.cell 1 _ rfl; have b2 := D2.out.B.cell 2 _ rfl; have fb0 := D2.out.B.frozen 0; have fb1 := D2.out.B.frozen 1; have fb2 := D2.out.B.frozen 2; have r0 := D2.out.R.cell 0 _ rfl; have r1 := D2.out.R.cell 1 _ rfl; have r2 := D2.out.R.cell 2 _ rfl; have fr0 := D2.out.R.frozen 0; have fr1 := D2.out.R.frozen 1; have fr2 := D2.out.R.frozen 2) | (go_at_call 49; (with_reducible refine (hBfalse _).mono ?_); rintro e wn ⟨rfl, hb⟩; have D3 := Lib.hid ((D2.out).on hb); clear hb; have a0 := D3.out.A.cell 0 _ rfl; have a1 := D3.out.A.cell 1 _ rfl; have a2 := D3.out.A.cell 2 _ rfl; have fa0 := D3.out.A.frozen 0; have fa1 := D3.out.A.frozen 1; have fa2 := D3.out.A.frozen 2; have b0 := D3.out.B.cell 0 _ rfl; have b1 := D3.out.B.cell 1 _ rfl; have b2 := D3.out.B.cell 2 _ rfl; have fb0 := D3.out.B.frozen 0; have fb1 := D3.out.B.frozen 1; have fb2 := D3.out.B.frozen 2; have r0 := D3.out.R.cell 0 _ rfl; have r1 := D3.out.R.cell 1 _ rfl; have r2 := D3.out.R.cell 2 _ rfl; have fr0 := D3.out.R.frozen 0; have fr1 := D3.out.R.frozen 1; have fr2 := D3.out.R.frozen 2))
  refine bodyPost_ret (results_ct rfl _ _ (w.heap.size + 1 + 1) 32 #[.int .i64 1, .int .i64 0, .string ⟨#[]⟩] (0, 0) _ rfl ((D3.out).put 1 0 _).1 Tryd.underlying32 rfl (by kernel_rfl)) rfl ⟨rfl, ((D3.out).put 1 0 _).2⟩
set_option maxHeartbeats 8000000 in
theorem do14n (k n : Int) (s : ByteArray) (k2 n2 : Int) (s2 : ByteArray) (most : Int) (x1 : Bool) (hl : lessB k n s k2 n2 s2 = (x1, false)) (w : World) (hT : Tab w) : Calls Tryd.prog 46 #[.int .i64 14, .agg #[.int .i64 k, .int .i64 n, .string s], .agg #[.int .i64 k2, .int .i64 n2, .string s2], .int .i64 most] w fun e w' => e = .returned (.tuple #[.agg #[.int .i64 0, .int .i64 0, .string ⟨#[]⟩], .int .i64 18]) ∧ Below w.heap.size w w' := by
  have T0 := Lib.hid hT
  clear hT
  have D0 := Lib.hid (D3.start w 32 k n s k2 n2 s2)
  have SW := Lib.hid (fun W => hSwap (14) (14) false false W (Or.inr (.inr (.inr ⟨by omega, by omega, by omega, rfl, rfl, rfl⟩))))
  have HL := Lib.hid (fun W => hLess k n s k2 n2 s2 W)
  rw [hl] at HL
  clear hl
  go_enter Tryd.func46, Tryd.ntmps46
  go_wp2_with (first | (go_at_call 48; (with_reducible refine (SW.out _).mono ?_); rintro e wn ⟨rfl, hb⟩; have D1 := Lib.hid ((D0.out).on hb); clear hb; have a0 := D1.out.A.cell 0 _ rfl; have a1 := D1.out.A.cell 1 _ rfl; have a2 := D1.out.A.cell 2 _ rfl; have fa0 := D1.out.A.frozen 0; have fa1 := D1.out.A.frozen 1; have fa2 := D1.out.A.frozen 2; have b0 := D1.out.B.cell 0 _ rfl; have b1 := D1.out.B.cell 1 _ rfl; have b2 := D1.out.B.cell 2 _ rfl; have fb0 := D1.out.B.frozen 0; have fb1 := D1.out.B.frozen 1; have fb2 := D1.out.B.frozen 2; have r0 := D1.out.R.cell 0 _ rfl; have r1 := D1.out.R.cell 1 _ rfl; have r2 := D1.out.R.cell 2 _ rfl; have fr0 := D1.out.R.frozen 0; have fr1 := D1.out.R.frozen 1; have fr2 := D1.out.R.frozen 2) | (go_at_call 71; (with_reducible refine (HL.out _).mono ?_); rintro e wn ⟨rfl, hb⟩; have D2 := Lib.hid ((D1.out).on hb); clear hb; have a0 := D2.out.A.cell 0 _ rfl; have a1 := D2.out.A.cell 1 _ rfl; have a2 := D2.out.A.cell 2 _ rfl; have fa0 := D2.out.A.frozen 0; have fa1 := D2.out.A.frozen 1; have fa2 := D2.out.A.frozen 2; have b0 := D2.out.B.cell 0 _ rfl; have b1 := D2.out.B.cell 1 _ rfl; have b2 := D2.out.B.cell 2 _ rfl; have fb0 := D2.out.B.frozen 0; have fb1 := D2.out.B.frozen 1; have fb2 := D2.out.B.frozen 2; have r0 := D2.out.R.cell 0 _ rfl; have r1 := D2.out.R.cell 1 _ rfl; have r2 := D2.out.R.cell 2 _ rfl; have fr0 := D2.out.R.frozen 0; have fr1 := D2.out.R.frozen 1; have fr2 := D2.out.R.frozen 2))
  refine bodyPost_ret (results_ct rfl _ _ (w.heap.size + 1 + 1) 32 #[.int .i64 0, .int .i64 0, .string ⟨#[]⟩] (0, 0) _ rfl ((D2.out).put 0 0 _).1 Tryd.underlying32 rfl (by kernel_rfl)) rfl ⟨rfl, ((D2.out).put 0 0 _).2⟩
set_option maxHeartbeats 8000000 in
theorem do14false (k n : Int) (s : ByteArray) (k2 n2 : Int) (s2 : ByteArray) (most : Int)  (hl : lessB k n s k2 n2 s2 = (false, true)) (w : World) (hT : Tab w) : Calls Tryd.prog 46 #[.int .i64 14, .agg #[.int .i64 k, .int .i64 n, .string s], .agg #[.int .i64 k2, .int .i64 n2, .string s2], .int .i64 most] w fun e w' => e = .returned (.tuple #[.agg #[.int .i64 1, .int .i64 0, .string ⟨#[]⟩], .int .i64 0]) ∧ Below w.heap.size w w' := by
  have T0 := Lib.hid hT
  clear hT
  have D0 := Lib.hid (D3.start w 32 k n s k2 n2 s2)
  have SW := Lib.hid (fun W => hSwap (14) (14) false false W (Or.inr (.inr (.inr ⟨by omega, by omega, by omega, rfl, rfl, rfl⟩))))
  have HL := Lib.hid (fun W => hLess k n s k2 n2 s2 W)
  rw [hl] at HL
  clear hl
  go_enter Tryd.func46, Tryd.ntmps46
  go_wp2_with (first | (go_at_call 48; (with_reducible refine (SW.out _).mono ?_); rintro e wn ⟨rfl, hb⟩; have D1 := Lib.hid ((D0.out).on hb); clear hb; have a0 := D1.out.A.cell 0 _ rfl; have a1 := D1.out.A.cell 1 _ rfl; have a2 := D1.out.A.cell 2 _ rfl; have fa0 := D1.out.A.frozen 0; have fa1 := D1.out.A.frozen 1; have fa2 := D1.out.A.frozen 2; have b0 := D1.out.B.cell 0 _ rfl; have b1 := D1.out.B.cell 1 _ rfl; have b2 := D1.out.B.cell 2 _ rfl; have fb0 := D1.out.B.frozen 0; have fb1 := D1.out.B.frozen 1; have fb2 := D1.out.B.frozen 2; have r0 := D1.out.R.cell 0 _ rfl; have r1 := D1.out.R.cell 1 _ rfl; have r2 := D1.out.R.cell 2 _ rfl; have fr0 := D1.out.R.frozen 0; have fr1 := D1.out.R.frozen 1; have fr2 := D1.out.R.frozen 2) | (go_at_call 71; (with_reducible refine (HL.out _).mono ?_); rintro e wn ⟨rfl, hb⟩; have D2 := Lib.hid ((D1.out).on hb); clear hb; have a0 := D2.out.A.cell 0 _ rfl; have a1 := D2.out.A.cell 1 _ rfl; have a2 := D2.out.A.cell 2 _ rfl; have fa0 := D2.out.A.frozen 0; have fa1 := D2.out.A.frozen 1; have fa2 := D2.out.A.frozen 2; have b0 := D2.out.B.cell 0 _ rfl; have b1 := D2.out.B.cell 1 _ rfl; have b2 := D2.out.B.cell 2 _ rfl; have fb0 := D2.out.B.frozen 0; have fb1 := D2.out.B.frozen 1; have fb2 := D2.out.B.frozen 2; have r0 := D2.out.R.cell 0 _ rfl; have r1 := D2.out.R.cell 1 _ rfl; have r2 := D2.out.R.cell 2 _ rfl; have fr0 := D2.out.R.frozen 0; have fr1 := D2.out.R.frozen 1; have fr2 := D2.out.R.frozen 2) | (go_at_call 49; (with_reducible refine (hBfalse _).mono ?_); rintro e wn ⟨rfl, hb⟩; have D3 := Lib.hid ((D2.out).on hb); clear hb; have a0 := D3.out.A.cell 0 _ rfl; have a1 := D3.out.A.cell 1 _ rfl; have a2 := D3.out.A.cell 2 _ rfl; have fa0 := D3.out.A.frozen 0; have fa1 := D3.out.A.frozen 1; have fa2 := D3.out.A.frozen 2; have b0 := D3.out.B.cell 0 _ rfl; have b1 := D3.out.B.cell 1 _ rfl; have b2 := D3.out.B.cell 2 _ rfl; have fb0 := D3.out.B.frozen 0; have fb1 := D3.out.B.frozen 1; have fb2 := D3.out.B.frozen 2; have r0 := D3.out.R.cell 0 _ rfl; have r1 := D3.out.R.cell 1 _ rfl; have r2 := D3.out.R.cell 2 _ rfl; have fr0 := D3.out.R.frozen 0; have fr1 := D3.out.R.frozen 1; have fr2 := D3.out.R.frozen 2))
  refine bodyPost_ret (results_ct rfl _ _ (w.heap.size + 1 + 1) 32 #[.int .i64 1, .int .i64 0, .string ⟨#[]⟩] (0, 0) _ rfl ((D3.out).put 1 0 _).1 Tryd.underlying32 rfl (by kernel_rfl)) rfl ⟨rfl, ((D3.out).put 1 0 _).2⟩
set_option maxHeartbeats 8000000 in
theorem do14true (k n : Int) (s : ByteArray) (k2 n2 : Int) (s2 : ByteArray) (most : Int)  (hl : lessB k n s k2 n2 s2 = (true, true)) (w : World) (hT : Tab w) : Calls Tryd.prog 46 #[.int .i64 14, .agg #[.int .i64 k, .int .i64 n, .string s], .agg #[.int .i64 k2, .int .i64 n2, .string s2], .int .i64 most] w fun e w' => e = .returned (.tuple #[.agg #[.int .i64 1, .int .i64 1, .string ⟨#[]⟩], .int .i64 0]) ∧ Below w.heap.size w w' := by
  have T0 := Lib.hid hT
  clear hT
  have D0 := Lib.hid (D3.start w 32 k n s k2 n2 s2)
  have SW := Lib.hid (fun W => hSwap (14) (14) false false W (Or.inr (.inr (.inr ⟨by omega, by omega, by omega, rfl, rfl, rfl⟩))))
  have HL := Lib.hid (fun W => hLess k n s k2 n2 s2 W)
  rw [hl] at HL
  clear hl
  go_enter Tryd.func46, Tryd.ntmps46
  go_wp2_with (first | (go_at_call 48; (with_reducible refine (SW.out _).mono ?_); rintro e wn ⟨rfl, hb⟩; have D1 := Lib.hid ((D0.out).on hb); clear hb; have a0 := D1.out.A.cell 0 _ rfl; have a1 := D1.out.A.cell 1 _ rfl; have a2 := D1.out.A.cell 2 _ rfl; have fa0 := D1.out.A.frozen 0; have fa1 := D1.out.A.frozen 1; have fa2 := D1.out.A.frozen 2; have b0 := D1.out.B.cell 0 _ rfl; have b1 := D1.out.B.cell 1 _ rfl; have b2 := D1.out.B.cell 2 _ rfl; have fb0 := D1.out.B.frozen 0; have fb1 := D1.out.B.frozen 1; have fb2 := D1.out.B.frozen 2; have r0 := D1.out.R.cell 0 _ rfl; have r1 := D1.out.R.cell 1 _ rfl; have r2 := D1.out.R.cell 2 _ rfl; have fr0 := D1.out.R.frozen 0; have fr1 := D1.out.R.frozen 1; have fr2 := D1.out.R.frozen 2) | (go_at_call 71; (with_reducible refine (HL.out _).mono ?_); rintro e wn ⟨rfl, hb⟩; have D2 := Lib.hid ((D1.out).on hb); clear hb; have a0 := D2.out.A.cell 0 _ rfl; have a1 := D2.out.A.cell 1 _ rfl; have a2 := D2.out.A.cell 2 _ rfl; have fa0 := D2.out.A.frozen 0; have fa1 := D2.out.A.frozen 1; have fa2 := D2.out.A.frozen 2; have b0 := D2.out.B.cell 0 _ rfl; have b1 := D2.out.B.cell 1 _ rfl; have b2 := D2.out.B.cell 2 _ rfl; have fb0 := D2.out.B.frozen 0; have fb1 := D2.out.B.frozen 1; have fb2 := D2.out.B.frozen 2; have r0 := D2.out.R.cell 0 _ rfl; have r1 := D2.out.R.cell 1 _ rfl; have r2 := D2.out.R.cell 2 _ rfl; have fr0 := D2.out.R.frozen 0; have fr1 := D2.out.R.frozen 1; have fr2 := D2.out.R.frozen 2) | (go_at_call 49; (with_reducible refine (hBtrue _).mono ?_); rintro e wn ⟨rfl, hb⟩; have D3 := Lib.hid ((D2.out).on hb); clear hb; have a0 := D3.out.A.cell 0 _ rfl; have a1 := D3.out.A.cell 1 _ rfl; have a2 := D3.out.A.cell 2 _ rfl; have fa0 := D3.out.A.frozen 0; have fa1 := D3.out.A.frozen 1; have fa2 := D3.out.A.frozen 2; have b0 := D3.out.B.cell 0 _ rfl; have b1 := D3.out.B.cell 1 _ rfl; have b2 := D3.out.B.cell 2 _ rfl; have fb0 := D3.out.B.frozen 0; have fb1 := D3.out.B.frozen 1; have fb2 := D3.out.B.frozen 2; have r0 := D3.out.R.cell 0 _ rfl; have r1 := D3.out.R.cell 1 _ rfl; have r2 := D3.out.R.cell 2 _ rfl; have fr0 := D3.out.R.frozen 0; have fr1 := D3.out.R.frozen 1; have fr2 := D3.out.R.frozen 2))
  refine bodyPost_ret (results_ct rfl _ _ (w.heap.size + 1 + 1) 32 #[.int .i64 1, .int .i64 1, .string ⟨#[]⟩] (0, 0) _ rfl ((D3.out).put 1 1 _).1 Tryd.underlying32 rfl (by kernel_rfl)) rfl ⟨rfl, ((D3.out).put 1 1 _).2⟩
set_option maxHeartbeats 8000000 in
theorem do16n (k n : Int) (s : ByteArray) (k2 n2 : Int) (s2 : ByteArray) (most : Int) (x1 : Bool) (hl : lessB k2 n2 s2 k n s = (x1, false)) (w : World) (hT : Tab w) : Calls Tryd.prog 46 #[.int .i64 16, .agg #[.int .i64 k, .int .i64 n, .string s], .agg #[.int .i64 k2, .int .i64 n2, .string s2], .int .i64 most] w fun e w' => e = .returned (.tuple #[.agg #[.int .i64 0, .int .i64 0, .string ⟨#[]⟩], .int .i64 18]) ∧ Below w.heap.size w w' := by
  have T0 := Lib.hid hT
  clear hT
  have D0 := Lib.hid (D3.start w 32 k n s k2 n2 s2)
  have SW := Lib.hid (fun W => hSwap (16) (14) true false W (Or.inl ⟨rfl, rfl, rfl, rfl⟩))
  have HL := Lib.hid (fun W => hLess k2 n2 s2 k n s W)
  rw [hl] at HL
  clear hl
  go_enter Tryd.func46, Tryd.ntmps46
  go_wp2_with (first | (go_at_call 48; (with_reducible refine (SW.out _).mono ?_); rintro e wn ⟨rfl, hb⟩; have D1 := Lib.hid ((D0.out).on hb); clear hb; have a0 := D1.out.A.cell 0 _ rfl; have a1 := D1.out.A.cell 1 _ rfl; have a2 := D1.out.A.cell 2 _ rfl; have fa0 := D1.out.A.frozen 0; have fa1 := D1.out.A.frozen 1; have fa2 := D1.out.A.frozen 2; have b0 := D1.out.B.cell 0 _ rfl; have b1 := D1.out.B.cell 1 _ rfl; have b2 := D1.out.B.cell 2 _ rfl; have fb0 := D1.out.B.frozen 0; have fb1 := D1.out.B.frozen 1; have fb2 := D1.out.B.frozen 2; have r0 := D1.out.R.cell 0 _ rfl; have r1 := D1.out.R.cell 1 _ rfl; have r2 := D1.out.R.cell 2 _ rfl; have fr0 := D1.out.R.frozen 0; have fr1 := D1.out.R.frozen 1; have fr2 := D1.out.R.frozen 2) | (go_at_call 71; (with_reducible refine (HL.out _).mono ?_); rintro e wn ⟨rfl, hb⟩; have D2 := Lib.hid ((D1.out.swap).on hb); clear hb; have a0 := D2.out.A.cell 0 _ rfl; have a1 := D2.out.A.cell 1 _ rfl; have a2 := D2.out.A.cell 2 _ rfl; have fa0 := D2.out.A.frozen 0; have fa1 := D2.out.A.frozen 1; have fa2 := D2.out.A.frozen 2; have b0 := D2.out.B.cell 0 _ rfl; have b1 := D2.out.B.cell 1 _ rfl; have b2 := D2.out.B.cell 2 _ rfl; have fb0 := D2.out.B.frozen 0; have fb1 := D2.out.B.frozen 1; have fb2 := D2.out.B.frozen 2; have r0 := D2.out.R.cell 0 _ rfl; have r1 := D2.out.R.cell 1 _ rfl; have r2 := D2.out.R.cell 2 _ rfl; have fr0 := D2.out.R.frozen 0; have fr1 := D2.out.R.frozen 1; have fr2 := D2.out.R.frozen 2))
  refine bodyPost_ret (results_ct rfl _ _ (w.heap.size + 1 + 1) 32 #[.int .i64 0, .int .i64 0, .string ⟨#[]⟩] (0, 0) _ rfl ((D2.out).put 0 0 _).1 Tryd.underlying32 rfl (by kernel_rfl)) rfl ⟨rfl, ((D2.out).put 0 0 _).2⟩
set_option maxHeartbeats 8000000 in
theorem do16false (k n : Int) (s : ByteArray) (k2 n2 : Int) (s2 : ByteArray) (most : Int)  (hl : lessB k2 n2 s2 k n s = (false, true)) (w : World) (hT : Tab w) : Calls Tryd.prog 46 #[.int .i64 16, .agg #[.int .i64 k, .int .i64 n, .string s], .agg #[.int .i64 k2, .int .i64 n2, .string s2], .int .i64 most] w fun e w' => e = .returned (.tuple #[.agg #[.int .i64 1, .int .i64 0, .string ⟨#[]⟩], .int .i64 0]) ∧ Below w.heap.size w w' := by
  have T0 := Lib.hid hT
  clear hT
  have D0 := Lib.hid (D3.start w 32 k n s k2 n2 s2)
  have SW := Lib.hid (fun W => hSwap (16) (14) true false W (Or.inl ⟨rfl, rfl, rfl, rfl⟩))
  have HL := Lib.hid (fun W => hLess k2 n2 s2 k n s W)
  rw [hl] at HL
  clear hl
  go_enter Tryd.func46, Tryd.ntmps46
  go_wp2_with (first | (go_at_call 48; (with_reducible refine (SW.out _).mono ?_); rintro e wn ⟨rfl, hb⟩; have D1 := Lib.hid ((D0.out).on hb); clear hb; have a0 := D1.out.A.cell 0 _ rfl; have a1 := D1.out.A.cell 1 _ rfl; have a2 := D1.out.A.cell 2 _ rfl; have fa0 := D1.out.A.frozen 0; have fa1 := D1.out.A.frozen 1; have fa2 := D1.out.A.frozen 2; have b0 := D1.out.B.cell 0 _ rfl; have b1 := D1.out.B.cell 1 _ rfl; have b2 := D1.out.B.cell 2 _ rfl; have fb0 := D1.out.B.frozen 0; have fb1 := D1.out.B.frozen 1; have fb2 := D1.out.B.frozen 2; have r0 := D1.out.R.cell 0 _ rfl; have r1 := D1.out.R.cell 1 _ rfl; have r2 := D1.out.R.cell 2 _ rfl; have fr0 := D1.out.R.frozen 0; have fr1 := D1.out.R.frozen 1; have fr2 := D1.out.R.frozen 2) | (go_at_call 71; (with_reducible refine (HL.out _).mono ?_); rintro e wn ⟨rfl, hb⟩; have D2 := Lib.hid ((D1.out.swap).on hb); clear hb; have a0 := D2.out.A.cell 0 _ rfl; have a1 := D2.out.A.cell 1 _ rfl; have a2 := D2.out.A.cell 2 _ rfl; have fa0 := D2.out.A.frozen 0; have fa1 := D2.out.A.frozen 1; have fa2 := D2.out.A.frozen 2; have b0 := D2.out.B.cell 0 _ rfl; have b1 := D2.out.B.cell 1 _ rfl; have b2 := D2.out.B.cell 2 _ rfl; have fb0 := D2.out.B.frozen 0; have fb1 := D2.out.B.frozen 1; have fb2 := D2.out.B.frozen 2; have r0 := D2.out.R.cell 0 _ rfl; have r1 := D2.out.R.cell 1 _ rfl; have r2 := D2.out.R.cell 2 _ rfl; have fr0 := D2.out.R.frozen 0; have fr1 := D2.out.R.frozen 1; have fr2 := D2.out.R.frozen 2) | (go_at_call 49; (with_reducible refine (hBfalse _).mono ?_); rintro e wn ⟨rfl, hb⟩; have D3 := Lib.hid ((D2.out).on hb); clear hb; have a0 := D3.out.A.cell 0 _ rfl; have a1 := D3.out.A.cell 1 _ rfl; have a2 := D3.out.A.cell 2 _ rfl; have fa0 := D3.out.A.frozen 0; have fa1 := D3.out.A.frozen 1; have fa2 := D3.out.A.frozen 2; have b0 := D3.out.B.cell 0 _ rfl; have b1 := D3.out.B.cell 1 _ rfl; have b2 := D3.out.B.cell 2 _ rfl; have fb0 := D3.out.B.frozen 0; have fb1 := D3.out.B.frozen 1; have fb2 := D3.out.B.frozen 2; have r0 := D3.out.R.cell 0 _ rfl; have r1 := D3.out.R.cell 1 _ rfl; have r2 := D3.out.R.cell 2 _ rfl; have fr0 := D3.out.R.frozen 0; have fr1 := D3.out.R.frozen 1; have fr2 := D3.out.R.frozen 2))
  refine bodyPost_ret (results_ct rfl _ _ (w.heap.size + 1 + 1) 32 #[.int .i64 1, .int .i64 0, .string ⟨#[]⟩] (0, 0) _ rfl ((D3.out).put 1 0 _).1 Tryd.underlying32 rfl (by kernel_rfl)) rfl ⟨rfl, ((D3.out).put 1 0 _).2⟩
set_option maxHeartbeats 8000000 in
theorem do16true (k n : Int) (s : ByteArray) (k2 n2 : Int) (s2 : ByteArray) (most : Int)  (hl : lessB k2 n2 s2 k n s = (true, true)) (w : World) (hT : Tab w) : Calls Tryd.prog 46 #[.int .i64 16, .agg #[.int .i64 k, .int .i64 n, .string s], .agg #[.int .i64 k2, .int .i64 n2, .string s2], .int .i64 most] w fun e w' => e = .returned (.tuple #[.agg #[.int .i64 1, .int .i64 1, .string ⟨#[]⟩], .int .i64 0]) ∧ Below w.heap.size w w' := by
  have T0 := Lib.hid hT
  clear hT
  have D0 := Lib.hid (D3.start w 32 k n s k2 n2 s2)
  have SW := Lib.hid (fun W => hSwap (16) (14) true false W (Or.inl ⟨rfl, rfl, rfl, rfl⟩))
  have HL := Lib.hid (fun W => hLess k2 n2 s2 k n s W)
  rw [hl] at HL
  clear hl
  go_enter Tryd.func46, Tryd.ntmps46
  go_wp2_with (first | (go_at_call 48; (with_reducible refine (SW.out _).mono ?_); rintro e wn ⟨rfl, hb⟩; have D1 := Lib.hid ((D0.out).on hb); clear hb; have a0 := D1.out.A.cell 0 _ rfl; have a1 := D1.out.A.cell 1 _ rfl; have a2 := D1.out.A.cell 2 _ rfl; have fa0 := D1.out.A.frozen 0; have fa1 := D1.out.A.frozen 1; have fa2 := D1.out.A.frozen 2; have b0 := D1.out.B.cell 0 _ rfl; have b1 := D1.out.B.cell 1 _ rfl; have b2 := D1.out.B.cell 2 _ rfl; have fb0 := D1.out.B.frozen 0; have fb1 := D1.out.B.frozen 1; have fb2 := D1.out.B.frozen 2; have r0 := D1.out.R.cell 0 _ rfl; have r1 := D1.out.R.cell 1 _ rfl; have r2 := D1.out.R.cell 2 _ rfl; have fr0 := D1.out.R.frozen 0; have fr1 := D1.out.R.frozen 1; have fr2 := D1.out.R.frozen 2) | (go_at_call 71; (with_reducible refine (HL.out _).mono ?_); rintro e wn ⟨rfl, hb⟩; have D2 := Lib.hid ((D1.out.swap).on hb); clear hb; have a0 := D2.out.A.cell 0 _ rfl; have a1 := D2.out.A.cell 1 _ rfl; have a2 := D2.out.A.cell 2 _ rfl; have fa0 := D2.out.A.frozen 0; have fa1 := D2.out.A.frozen 1; have fa2 := D2.out.A.frozen 2; have b0 := D2.out.B.cell 0 _ rfl; have b1 := D2.out.B.cell 1 _ rfl; have b2 := D2.out.B.cell 2 _ rfl; have fb0 := D2.out.B.frozen 0; have fb1 := D2.out.B.frozen 1; have fb2 := D2.out.B.frozen 2; have r0 := D2.out.R.cell 0 _ rfl; have r1 := D2.out.R.cell 1 _ rfl; have r2 := D2.out.R.cell 2 _ rfl; have fr0 := D2.out.R.frozen 0; have fr1 := D2.out.R.frozen 1; have fr2 := D2.out.R.frozen 2) | (go_at_call 49; (with_reducible refine (hBtrue _).mono ?_); rintro e wn ⟨rfl, hb⟩; have D3 := Lib.hid ((D2.out).on hb); clear hb; have a0 := D3.out.A.cell 0 _ rfl; have a1 := D3.out.A.cell 1 _ rfl; have a2 := D3.out.A.cell 2 _ rfl; have fa0 := D3.out.A.frozen 0; have fa1 := D3.out.A.frozen 1; have fa2 := D3.out.A.frozen 2; have b0 := D3.out.B.cell 0 _ rfl; have b1 := D3.out.B.cell 1 _ rfl; have b2 := D3.out.B.cell 2 _ rfl; have fb0 := D3.out.B.frozen 0; have fb1 := D3.out.B.frozen 1; have fb2 := D3.out.B.frozen 2; have r0 := D3.out.R.cell 0 _ rfl; have r1 := D3.out.R.cell 1 _ rfl; have r2 := D3.out.R.cell 2 _ rfl; have fr0 := D3.out.R.frozen 0; have fr1 := D3.out.R.frozen 1; have fr2 := D3.out.R.frozen 2))
  refine bodyPost_ret (results_ct rfl _ _ (w.heap.size + 1 + 1) 32 #[.int .i64 1, .int .i64 1, .string ⟨#[]⟩] (0, 0) _ rfl ((D3.out).put 1 1 _).1 Tryd.underlying32 rfl (by kernel_rfl)) rfl ⟨rfl, ((D3.out).put 1 1 _).2⟩
set_option maxHeartbeats 8000000 in
theorem do15n (k n : Int) (s : ByteArray) (k2 n2 : Int) (s2 : ByteArray) (most : Int) (x1 : Bool) (hl : lessB k2 n2 s2 k n s = (x1, false)) (w : World) (hT : Tab w) : Calls Tryd.prog 46 #[.int .i64 15, .agg #[.int .i64 k, .int .i64 n, .string s], .agg #[.int .i64 k2, .int .i64 n2, .string s2], .int .i64 most] w fun e w' => e = .returned (.tuple #[.agg #[.int .i64 0, .int .i64 0, .string ⟨#[]⟩], .int .i64 18]) ∧ Below w.heap.size w w' := by
  have T0 := Lib.hid hT
  clear hT
  have D0 := Lib.hid (D3.start w 32 k n s k2 n2 s2)
  have SW := Lib.hid (fun W => hSwap (15) (15) false false W (Or.inr (.inr (.inr ⟨by omega, by omega, by omega, rfl, rfl, rfl⟩))))
  have HL := Lib.hid (fun W => hLess k2 n2 s2 k n s W)
  rw [hl] at HL
  clear hl
  go_enter Tryd.func46, Tryd.ntmps46
  go_wp2_with (first | (go_at_call 48; (with_reducible refine (SW.out _).mono ?_); rintro e wn ⟨rfl, hb⟩; have D1 := Lib.hid ((D0.out).on hb); clear hb; have a0 := D1.out.A.cell 0 _ rfl; have a1 := D1.out.A.cell 1 _ rfl; have a2 := D1.out.A.cell 2 _ rfl; have fa0 := D1.out.A.frozen 0; have fa1 := D1.out.A.frozen 1; have fa2 := D1.out.A.frozen 2; have b0 := D1.out.B.cell 0 _ rfl; have b1 := D1.out.B.cell 1 _ rfl; have b2 := D1.out.B.cell 2 _ rfl; have fb0 := D1.out.B.frozen 0; have fb1 := D1.out.B.frozen 1; have fb2 := D1.out.B.frozen 2; have r0 := D1.out.R.cell 0 _ rfl; have r1 := D1.out.R.cell 1 _ rfl; have r2 := D1.out.R.cell 2 _ rfl; have fr0 := D1.out.R.frozen 0; have fr1 := D1.out.R.frozen 1; have fr2 := D1.out.R.frozen 2) | (go_at_call 71; (with_reducible refine (HL.out _).mono ?_); rintro e wn ⟨rfl, hb⟩; have D2 := Lib.hid ((D1.out.swap).on hb); clear hb; have a0 := D2.out.A.cell 0 _ rfl; have a1 := D2.out.A.cell 1 _ rfl; have a2 := D2.out.A.cell 2 _ rfl; have fa0 := D2.out.A.frozen 0; have fa1 := D2.out.A.frozen 1; have fa2 := D2.out.A.frozen 2; have b0 := D2.out.B.cell 0 _ rfl; have b1 := D2.out.B.cell 1 _ rfl; have b2 := D2.out.B.cell 2 _ rfl; have fb0 := D2.out.B.frozen 0; have fb1 := D2.out.B.frozen 1; have fb2 := D2.out.B.frozen 2; have r0 := D2.out.R.cell 0 _ rfl; have r1 := D2.out.R.cell 1 _ rfl; have r2 := D2.out.R.cell 2 _ rfl; have fr0 := D2.out.R.frozen 0; have fr1 := D2.out.R.frozen 1; have fr2 := D2.out.R.frozen 2))
  refine bodyPost_ret (results_ct rfl _ _ (w.heap.size + 1 + 1) 32 #[.int .i64 0, .int .i64 0, .string ⟨#[]⟩] (0, 0) _ rfl ((D2.out).put 0 0 _).1 Tryd.underlying32 rfl (by kernel_rfl)) rfl ⟨rfl, ((D2.out).put 0 0 _).2⟩
set_option maxHeartbeats 8000000 in
theorem do15false (k n : Int) (s : ByteArray) (k2 n2 : Int) (s2 : ByteArray) (most : Int)  (hl : lessB k2 n2 s2 k n s = (false, true)) (w : World) (hT : Tab w) : Calls Tryd.prog 46 #[.int .i64 15, .agg #[.int .i64 k, .int .i64 n, .string s], .agg #[.int .i64 k2, .int .i64 n2, .string s2], .int .i64 most] w fun e w' => e = .returned (.tuple #[.agg #[.int .i64 1, .int .i64 1, .string ⟨#[]⟩], .int .i64 0]) ∧ Below w.heap.size w w' := by
  have T0 := Lib.hid hT
  clear hT
  have D0 := Lib.hid (D3.start w 32 k n s k2 n2 s2)
  have SW := Lib.hid (fun W => hSwap (15) (15) false false W (Or.inr (.inr (.inr ⟨by omega, by omega, by omega, rfl, rfl, rfl⟩))))
  have HL := Lib.hid (fun W => hLess k2 n2 s2 k n s W)
  rw [hl] at HL
  clear hl
  go_enter Tryd.func46, Tryd.ntmps46
  go_wp2_with (first | (go_at_call 48; (with_reducible refine (SW.out _).mono ?_); rintro e wn ⟨rfl, hb⟩; have D1 := Lib.hid ((D0.out).on hb); clear hb; have a0 := D1.out.A.cell 0 _ rfl; have a1 := D1.out.A.cell 1 _ rfl; have a2 := D1.out.A.cell 2 _ rfl; have fa0 := D1.out.A.frozen 0; have fa1 := D1.out.A.frozen 1; have fa2 := D1.out.A.frozen 2; have b0 := D1.out.B.cell 0 _ rfl; have b1 := D1.out.B.cell 1 _ rfl; have b2 := D1.out.B.cell 2 _ rfl; have fb0 := D1.out.B.frozen 0; have fb1 := D1.out.B.frozen 1; have fb2 := D1.out.B.frozen 2; have r0 := D1.out.R.cell 0 _ rfl; have r1 := D1.out.R.cell 1 _ rfl; have r2 := D1.out.R.cell 2 _ rfl; have fr0 := D1.out.R.frozen 0; have fr1 := D1.out.R.frozen 1; have fr2 := D1.out.R.frozen 2) | (go_at_call 71; (with_reducible refine (HL.out _).mono ?_); rintro e wn ⟨rfl, hb⟩; have D2 := Lib.hid ((D1.out.swap).on hb); clear hb; have a0 := D2.out.A.cell 0 _ rfl; have a1 := D2.out.A.cell 1 _ rfl; have a2 := D2.out.A.cell 2 _ rfl; have fa0 := D2.out.A.frozen 0; have fa1 := D2.out.A.frozen 1; have fa2 := D2.out.A.frozen 2; have b0 := D2.out.B.cell 0 _ rfl; have b1 := D2.out.B.cell 1 _ rfl; have b2 := D2.out.B.cell 2 _ rfl; have fb0 := D2.out.B.frozen 0; have fb1 := D2.out.B.frozen 1; have fb2 := D2.out.B.frozen 2; have r0 := D2.out.R.cell 0 _ rfl; have r1 := D2.out.R.cell 1 _ rfl; have r2 := D2.out.R.cell 2 _ rfl; have fr0 := D2.out.R.frozen 0; have fr1 := D2.out.R.frozen 1; have fr2 := D2.out.R.frozen 2) | (go_at_call 49; (with_reducible refine (hBtrue _).mono ?_); rintro e wn ⟨rfl, hb⟩; have D3 := Lib.hid ((D2.out).on hb); clear hb; have a0 := D3.out.A.cell 0 _ rfl; have a1 := D3.out.A.cell 1 _ rfl; have a2 := D3.out.A.cell 2 _ rfl; have fa0 := D3.out.A.frozen 0; have fa1 := D3.out.A.frozen 1; have fa2 := D3.out.A.frozen 2; have b0 := D3.out.B.cell 0 _ rfl; have b1 := D3.out.B.cell 1 _ rfl; have b2 := D3.out.B.cell 2 _ rfl; have fb0 := D3.out.B.frozen 0; have fb1 := D3.out.B.frozen 1; have fb2 := D3.out.B.frozen 2; have r0 := D3.out.R.cell 0 _ rfl; have r1 := D3.out.R.cell 1 _ rfl; have r2 := D3.out.R.cell 2 _ rfl; have fr0 := D3.out.R.frozen 0; have fr1 := D3.out.R.frozen 1; have fr2 := D3.out.R.frozen 2))
  refine bodyPost_ret (results_ct rfl _ _ (w.heap.size + 1 + 1) 32 #[.int .i64 1, .int .i64 1, .string ⟨#[]⟩] (0, 0) _ rfl ((D3.out).put 1 1 _).1 Tryd.underlying32 rfl (by kernel_rfl)) rfl ⟨rfl, ((D3.out).put 1 1 _).2⟩
set_option maxHeartbeats 8000000 in
theorem do15true (k n : Int) (s : ByteArray) (k2 n2 : Int) (s2 : ByteArray) (most : Int)  (hl : lessB k2 n2 s2 k n s = (true, true)) (w : World) (hT : Tab w) : Calls Tryd.prog 46 #[.int .i64 15, .agg #[.int .i64 k, .int .i64 n, .string s], .agg #[.int .i64 k2, .int .i64 n2, .string s2], .int .i64 most] w fun e w' => e = .returned (.tuple #[.agg #[.int .i64 1, .int .i64 0, .string ⟨#[]⟩], .int .i64 0]) ∧ Below w.heap.size w w' := by
  have T0 := Lib.hid hT
  clear hT
  have D0 := Lib.hid (D3.start w 32 k n s k2 n2 s2)
  have SW := Lib.hid (fun W => hSwap (15) (15) false false W (Or.inr (.inr (.inr ⟨by omega, by omega, by omega, rfl, rfl, rfl⟩))))
  have HL := Lib.hid (fun W => hLess k2 n2 s2 k n s W)
  rw [hl] at HL
  clear hl
  go_enter Tryd.func46, Tryd.ntmps46
  go_wp2_with (first | (go_at_call 48; (with_reducible refine (SW.out _).mono ?_); rintro e wn ⟨rfl, hb⟩; have D1 := Lib.hid ((D0.out).on hb); clear hb; have a0 := D1.out.A.cell 0 _ rfl; have a1 := D1.out.A.cell 1 _ rfl; have a2 := D1.out.A.cell 2 _ rfl; have fa0 := D1.out.A.frozen 0; have fa1 := D1.out.A.frozen 1; have fa2 := D1.out.A.frozen 2; have b0 := D1.out.B.cell 0 _ rfl; have b1 := D1.out.B.cell 1 _ rfl; have b2 := D1.out.B.cell 2 _ rfl; have fb0 := D1.out.B.frozen 0; have fb1 := D1.out.B.frozen 1; have fb2 := D1.out.B.frozen 2; have r0 := D1.out.R.cell 0 _ rfl; have r1 := D1.out.R.cell 1 _ rfl; have r2 := D1.out.R.cell 2 _ rfl; have fr0 := D1.out.R.frozen 0; have fr1 := D1.out.R.frozen 1; have fr2 := D1.out.R.frozen 2) | (go_at_call 71; (with_reducible refine (HL.out _).mono ?_); rintro e wn ⟨rfl, hb⟩; have D2 := Lib.hid ((D1.out.swap).on hb); clear hb; have a0 := D2.out.A.cell 0 _ rfl; have a1 := D2.out.A.cell 1 _ rfl; have a2 := D2.out.A.cell 2 _ rfl; have fa0 := D2.out.A.frozen 0; have fa1 := D2.out.A.frozen 1; have fa2 := D2.out.A.frozen 2; have b0 := D2.out.B.cell 0 _ rfl; have b1 := D2.out.B.cell 1 _ rfl; have b2 := D2.out.B.cell 2 _ rfl; have fb0 := D2.out.B.frozen 0; have fb1 := D2.out.B.frozen 1; have fb2 := D2.out.B.frozen 2; have r0 := D2.out.R.cell 0 _ rfl; have r1 := D2.out.R.cell 1 _ rfl; have r2 := D2.out.R.cell 2 _ rfl; have fr0 := D2.out.R.frozen 0; have fr1 := D2.out.R.frozen 1; have fr2 := D2.out.R.frozen 2) | (go_at_call 49; (with_reducible refine (hBfalse _).mono ?_); rintro e wn ⟨rfl, hb⟩; have D3 := Lib.hid ((D2.out).on hb); clear hb; have a0 := D3.out.A.cell 0 _ rfl; have a1 := D3.out.A.cell 1 _ rfl; have a2 := D3.out.A.cell 2 _ rfl; have fa0 := D3.out.A.frozen 0; have fa1 := D3.out.A.frozen 1; have fa2 := D3.out.A.frozen 2; have b0 := D3.out.B.cell 0 _ rfl; have b1 := D3.out.B.cell 1 _ rfl; have b2 := D3.out.B.cell 2 _ rfl; have fb0 := D3.out.B.frozen 0; have fb1 := D3.out.B.frozen 1; have fb2 := D3.out.B.frozen 2; have r0 := D3.out.R.cell 0 _ rfl; have r1 := D3.out.R.cell 1 _ rfl; have r2 := D3.out.R.cell 2 _ rfl; have fr0 := D3.out.R.frozen 0; have fr1 := D3.out.R.frozen 1; have fr2 := D3.out.R.frozen 2))
  refine bodyPost_ret (results_ct rfl _ _ (w.heap.size + 1 + 1) 32 #[.int .i64 1, .int .i64 0, .string ⟨#[]⟩] (0, 0) _ rfl ((D3.out).put 1 0 _).1 Tryd.underlying32 rfl (by kernel_rfl)) rfl ⟨rfl, ((D3.out).put 1 0 _).2⟩
set_option maxHeartbeats 8000000 in
theorem do17n (k n : Int) (s : ByteArray) (k2 n2 : Int) (s2 : ByteArray) (most : Int) (x1 : Bool) (hl : lessB k n s k2 n2 s2 = (x1, false)) (w : World) (hT : Tab w) : Calls Tryd.prog 46 #[.int .i64 17, .agg #[.int .i64 k, .int .i64 n, .string s], .agg #[.int .i64 k2, .int .i64 n2, .string s2], .int .i64 most] w fun e w' => e = .returned (.tuple #[.agg #[.int .i64 0, .int .i64 0, .string ⟨#[]⟩], .int .i64 18]) ∧ Below w.heap.size w w' := by
  have T0 := Lib.hid hT
  clear hT
  have D0 := Lib.hid (D3.start w 32 k n s k2 n2 s2)
  have SW := Lib.hid (fun W => hSwap (17) (15) true false W (Or.inr (.inl ⟨rfl, rfl, rfl, rfl⟩)))
  have HL := Lib.hid (fun W => hLess k n s k2 n2 s2 W)
  rw [hl] at HL
  clear hl
  go_enter Tryd.func46, Tryd.ntmps46
  go_upto_region 4 with (go_at_call 48; (with_reducible refine (SW.out _).mono ?_); rintro e wn ⟨rfl, hb⟩; have D1 := Lib.hid ((D0.out).on hb); clear hb; have a0 := D1.out.A.cell 0 _ rfl; have a1 := D1.out.A.cell 1 _ rfl; have a2 := D1.out.A.cell 2 _ rfl; have fa0 := D1.out.A.frozen 0; have fa1 := D1.out.A.frozen 1; have fa2 := D1.out.A.frozen 2; have b0 := D1.out.B.cell 0 _ rfl; have b1 := D1.out.B.cell 1 _ rfl; have b2 := D1.out.B.cell 2 _ rfl; have fb0 := D1.out.B.frozen 0; have fb1 := D1.out.B.frozen 1; have fb2 := D1.out.B.frozen 2; have r0 := D1.out.R.cell 0 _ rfl; have r1 := D1.out.R.cell 1 _ rfl; have r2 := D1.out.R.cell 2 _ rfl; have fr0 := D1.out.R.frozen 0; have fr1 := D1.out.R.frozen 1; have fr2 := D1.out.R.frozen 2)
  have D1b := Lib.hid D1.out.swap
  generalize ((((((wn.setCell ⟨w.heap.size, 0, none⟩ (.int .i64 k2)).setCell ⟨w.heap.size, 1, none⟩ (.int .i64 n2)).setCell ⟨w.heap.size, 2, none⟩ (.string s2)).setCell ⟨w.heap.size + 1, 0, none⟩ (.int .i64 k)).setCell ⟨w.heap.size + 1, 1, none⟩ (.int .i64 n)).setCell ⟨w.heap.size + 1, 2, none⟩ (.string s)) = W2 at D1b ⊢
  have a0 := D1b.out.A.cell 0 _ rfl
  have a1 := D1b.out.A.cell 1 _ rfl
  have a2 := D1b.out.A.cell 2 _ rfl
  have fa0 := D1b.out.A.frozen 0
  have fa1 := D1b.out.A.frozen 1
  have fa2 := D1b.out.A.frozen 2
  have b0 := D1b.out.B.cell 0 _ rfl
  have b1 := D1b.out.B.cell 1 _ rfl
  have b2 := D1b.out.B.cell 2 _ rfl
  have fb0 := D1b.out.B.frozen 0
  have fb1 := D1b.out.B.frozen 1
  have fb2 := D1b.out.B.frozen 2
  have r0 := D1b.out.R.cell 0 _ rfl
  have r1 := D1b.out.R.cell 1 _ rfl
  have r2 := D1b.out.R.cell 2 _ rfl
  have fr0 := D1b.out.R.frozen 0
  have fr1 := D1b.out.R.frozen 1
  have fr2 := D1b.out.R.frozen 2
  go_wp2_with (first | (go_at_call 48; (with_reducible refine (SW.out _).mono ?_); rintro e wn ⟨rfl, hb⟩; have D1 := Lib.hid ((D0.out).on hb); clear hb; have a0 := D1.out.A.cell 0 _ rfl; have a1 := D1.out.A.cell 1 _ rfl; have a2 := D1.out.A.cell 2 _ rfl; have fa0 := D1.out.A.frozen 0; have fa1 := D1.out.A.frozen 1; have fa2 := D1.out.A.frozen 2; have b0 := D1.out.B.cell 0 _ rfl; have b1 := D1.out.B.cell 1 _ rfl; have b2 := D1.out.B.cell 2 _ rfl; have fb0 := D1.out.B.frozen 0; have fb1 := D1.out.B.frozen 1; have fb2 := D1.out.B.frozen 2; have r0 := D1.out.R.cell 0 _ rfl; have r1 := D1.out.R.cell 1 _ rfl; have r2 := D1.out.R.cell 2 _ rfl; have fr0 := D1.out.R.frozen 0; have fr1 := D1.out.R.frozen 1; have fr2 := D1.out.R.frozen 2) | (go_at_call 71; (with_reducible refine (HL.out _).mono ?_); rintro e wn ⟨rfl, hb⟩; have D2 := Lib.hid ((D1b.out.swap).on hb); clear hb; have a0 := D2.out.A.cell 0 _ rfl; have a1 := D2.out.A.cell 1 _ rfl; have a2 := D2.out.A.cell 2 _ rfl; have fa0 := D2.out.A.frozen 0; have fa1 := D2.out.A.frozen 1; have fa2 := D2.out.A.frozen 2; have b0 := D2.out.B.cell 0 _ rfl; have b1 := D2.out.B.cell 1 _ rfl; have b2 := D2.out.B.cell 2 _ rfl; have fb0 := D2.out.B.frozen 0; have fb1 := D2.out.B.frozen 1; have fb2 := D2.out.B.frozen 2; have r0 := D2.out.R.cell 0 _ rfl; have r1 := D2.out.R.cell 1 _ rfl; have r2 := D2.out.R.cell 2 _ rfl; have fr0 := D2.out.R.frozen 0; have fr1 := D2.out.R.frozen 1; have fr2 := D2.out.R.frozen 2))
  refine bodyPost_ret (results_ct rfl _ _ (w.heap.size + 1 + 1) 32 #[.int .i64 0, .int .i64 0, .string ⟨#[]⟩] (0, 0) _ rfl ((D2.out).put 0 0 _).1 Tryd.underlying32 rfl (by kernel_rfl)) rfl ⟨rfl, ((D2.out).put 0 0 _).2⟩
set_option maxHeartbeats 8000000 in
theorem do17false (k n : Int) (s : ByteArray) (k2 n2 : Int) (s2 : ByteArray) (most : Int)  (hl : lessB k n s k2 n2 s2 = (false, true)) (w : World) (hT : Tab w) : Calls Tryd.prog 46 #[.int .i64 17, .agg #[.int .i64 k, .int .i64 n, .string s], .agg #[.int .i64 k2, .int .i64 n2, .string s2], .int .i64 most] w fun e w' => e = .returned (.tuple #[.agg #[.int .i64 1, .int .i64 1, .string ⟨#[]⟩], .int .i64 0]) ∧ Below w.heap.size w w' := by
  have T0 := Lib.hid hT
  clear hT
  have D0 := Lib.hid (D3.start w 32 k n s k2 n2 s2)
  have SW := Lib.hid (fun W => hSwap (17) (15) true false W (Or.inr (.inl ⟨rfl, rfl, rfl, rfl⟩)))
  have HL := Lib.hid (fun W => hLess k n s k2 n2 s2 W)
  rw [hl] at HL
  clear hl
  go_enter Tryd.func46, Tryd.ntmps46
  go_upto_region 4 with (go_at_call 48; (with_reducible refine (SW.out _).mono ?_); rintro e wn ⟨rfl, hb⟩; have D1 := Lib.hid ((D0.out).on hb); clear hb; have a0 := D1.out.A.cell 0 _ rfl; have a1 := D1.out.A.cell 1 _ rfl; have a2 := D1.out.A.cell 2 _ rfl; have fa0 := D1.out.A.frozen 0; have fa1 := D1.out.A.frozen 1; have fa2 := D1.out.A.frozen 2; have b0 := D1.out.B.cell 0 _ rfl; have b1 := D1.out.B.cell 1 _ rfl; have b2 := D1.out.B.cell 2 _ rfl; have fb0 := D1.out.B.frozen 0; have fb1 := D1.out.B.frozen 1; have fb2 := D1.out.B.frozen 2; have r0 := D1.out.R.cell 0 _ rfl; have r1 := D1.out.R.cell 1 _ rfl; have r2 := D1.out.R.cell 2 _ rfl; have fr0 := D1.out.R.frozen 0; have fr1 := D1.out.R.frozen 1; have fr2 := D1.out.R.frozen 2)
  have D1b := Lib.hid D1.out.swap
  generalize ((((((wn.setCell ⟨w.heap.size, 0, none⟩ (.int .i64 k2)).setCell ⟨w.heap.size, 1, none⟩ (.int .i64 n2)).setCell ⟨w.heap.size, 2, none⟩ (.string s2)).setCell ⟨w.heap.size + 1, 0, none⟩ (.int .i64 k)).setCell ⟨w.heap.size + 1, 1, none⟩ (.int .i64 n)).setCell ⟨w.heap.size + 1, 2, none⟩ (.string s)) = W2 at D1b ⊢
  have a0 := D1b.out.A.cell 0 _ rfl
  have a1 := D1b.out.A.cell 1 _ rfl
  have a2 := D1b.out.A.cell 2 _ rfl
  have fa0 := D1b.out.A.frozen 0
  have fa1 := D1b.out.A.frozen 1
  have fa2 := D1b.out.A.frozen 2
  have b0 := D1b.out.B.cell 0 _ rfl
  have b1 := D1b.out.B.cell 1 _ rfl
  have b2 := D1b.out.B.cell 2 _ rfl
  have fb0 := D1b.out.B.frozen 0
  have fb1 := D1b.out.B.frozen 1
  have fb2 := D1b.out.B.frozen 2
  have r0 := D1b.out.R.cell 0 _ rfl
  have r1 := D1b.out.R.cell 1 _ rfl
  have r2 := D1b.out.R.cell 2 _ rfl
  have fr0 := D1b.out.R.frozen 0
  have fr1 := D1b.out.R.frozen 1
  have fr2 := D1b.out.R.frozen 2
  go_wp2_with (first | (go_at_call 48; (with_reducible refine (SW.out _).mono ?_); rintro e wn ⟨rfl, hb⟩; have D1 := Lib.hid ((D0.out).on hb); clear hb; have a0 := D1.out.A.cell 0 _ rfl; have a1 := D1.out.A.cell 1 _ rfl; have a2 := D1.out.A.cell 2 _ rfl; have fa0 := D1.out.A.frozen 0; have fa1 := D1.out.A.frozen 1; have fa2 := D1.out.A.frozen 2; have b0 := D1.out.B.cell 0 _ rfl; have b1 := D1.out.B.cell 1 _ rfl; have b2 := D1.out.B.cell 2 _ rfl; have fb0 := D1.out.B.frozen 0; have fb1 := D1.out.B.frozen 1; have fb2 := D1.out.B.frozen 2; have r0 := D1.out.R.cell 0 _ rfl; have r1 := D1.out.R.cell 1 _ rfl; have r2 := D1.out.R.cell 2 _ rfl; have fr0 := D1.out.R.frozen 0; have fr1 := D1.out.R.frozen 1; have fr2 := D1.out.R.frozen 2) | (go_at_call 71; (with_reducible refine (HL.out _).mono ?_); rintro e wn ⟨rfl, hb⟩; have D2 := Lib.hid ((D1b.out.swap).on hb); clear hb; have a0 := D2.out.A.cell 0 _ rfl; have a1 := D2.out.A.cell 1 _ rfl; have a2 := D2.out.A.cell 2 _ rfl; have fa0 := D2.out.A.frozen 0; have fa1 := D2.out.A.frozen 1; have fa2 := D2.out.A.frozen 2; have b0 := D2.out.B.cell 0 _ rfl; have b1 := D2.out.B.cell 1 _ rfl; have b2 := D2.out.B.cell 2 _ rfl; have fb0 := D2.out.B.frozen 0; have fb1 := D2.out.B.frozen 1; have fb2 := D2.out.B.frozen 2; have r0 := D2.out.R.cell 0 _ rfl; have r1 := D2.out.R.cell 1 _ rfl; have r2 := D2.out.R.cell 2 _ rfl; have fr0 := D2.out.R.frozen 0; have fr1 := D2.out.R.frozen 1; have fr2 := D2.out.R.frozen 2) | (go_at_call 49; (with_reducible refine (hBtrue _).mono ?_); rintro e wn ⟨rfl, hb⟩; have D3 := Lib.hid ((D2.out).on hb); clear hb; have a0 := D3.out.A.cell 0 _ rfl; have a1 := D3.out.A.cell 1 _ rfl; have a2 := D3.out.A.cell 2 _ rfl; have fa0 := D3.out.A.frozen 0; have fa1 := D3.out.A.frozen 1; have fa2 := D3.out.A.frozen 2; have b0 := D3.out.B.cell 0 _ rfl; have b1 := D3.out.B.cell 1 _ rfl; have b2 := D3.out.B.cell 2 _ rfl; have fb0 := D3.out.B.frozen 0; have fb1 := D3.out.B.frozen 1; have fb2 := D3.out.B.frozen 2; have r0 := D3.out.R.cell 0 _ rfl; have r1 := D3.out.R.cell 1 _ rfl; have r2 := D3.out.R.cell 2 _ rfl; have fr0 := D3.out.R.frozen 0; have fr1 := D3.out.R.frozen 1; have fr2 := D3.out.R.frozen 2))
  refine bodyPost_ret (results_ct rfl _ _ (w.heap.size + 1 + 1) 32 #[.int .i64 1, .int .i64 1, .string ⟨#[]⟩] (0, 0) _ rfl ((D3.out).put 1 1 _).1 Tryd.underlying32 rfl (by kernel_rfl)) rfl ⟨rfl, ((D3.out).put 1 1 _).2⟩
set_option maxHeartbeats 8000000 in
theorem do17true (k n : Int) (s : ByteArray) (k2 n2 : Int) (s2 : ByteArray) (most : Int)  (hl : lessB k n s k2 n2 s2 = (true, true)) (w : World) (hT : Tab w) : Calls Tryd.prog 46 #[.int .i64 17, .agg #[.int .i64 k, .int .i64 n, .string s], .agg #[.int .i64 k2, .int .i64 n2, .string s2], .int .i64 most] w fun e w' => e = .returned (.tuple #[.agg #[.int .i64 1, .int .i64 0, .string ⟨#[]⟩], .int .i64 0]) ∧ Below w.heap.size w w' := by
  have T0 := Lib.hid hT
  clear hT
  have D0 := Lib.hid (D3.start w 32 k n s k2 n2 s2)
  have SW := Lib.hid (fun W => hSwap (17) (15) true false W (Or.inr (.inl ⟨rfl, rfl, rfl, rfl⟩)))
  have HL := Lib.hid (fun W => hLess k n s k2 n2 s2 W)
  rw [hl] at HL
  clear hl
  go_enter Tryd.func46, Tryd.ntmps46
  go_upto_region 4 with (go_at_call 48; (with_reducible refine (SW.out _).mono ?_); rintro e wn ⟨rfl, hb⟩; have D1 := Lib.hid ((D0.out).on hb); clear hb; have a0 := D1.out.A.cell 0 _ rfl; have a1 := D1.out.A.cell 1 _ rfl; have a2 := D1.out.A.cell 2 _ rfl; have fa0 := D1.out.A.frozen 0; have fa1 := D1.out.A.frozen 1; have fa2 := D1.out.A.frozen 2; have b0 := D1.out.B.cell 0 _ rfl; have b1 := D1.out.B.cell 1 _ rfl; have b2 := D1.out.B.cell 2 _ rfl; have fb0 := D1.out.B.frozen 0; have fb1 := D1.out.B.frozen 1; have fb2 := D1.out.B.frozen 2; have r0 := D1.out.R.cell 0 _ rfl; have r1 := D1.out.R.cell 1 _ rfl; have r2 := D1.out.R.cell 2 _ rfl; have fr0 := D1.out.R.frozen 0; have fr1 := D1.out.R.frozen 1; have fr2 := D1.out.R.frozen 2)
  have D1b := Lib.hid D1.out.swap
  generalize ((((((wn.setCell ⟨w.heap.size, 0, none⟩ (.int .i64 k2)).setCell ⟨w.heap.size, 1, none⟩ (.int .i64 n2)).setCell ⟨w.heap.size, 2, none⟩ (.string s2)).setCell ⟨w.heap.size + 1, 0, none⟩ (.int .i64 k)).setCell ⟨w.heap.size + 1, 1, none⟩ (.int .i64 n)).setCell ⟨w.heap.size + 1, 2, none⟩ (.string s)) = W2 at D1b ⊢
  have a0 := D1b.out.A.cell 0 _ rfl
  have a1 := D1b.out.A.cell 1 _ rfl
  have a2 := D1b.out.A.cell 2 _ rfl
  have fa0 := D1b.out.A.frozen 0
  have fa1 := D1b.out.A.frozen 1
  have fa2 := D1b.out.A.frozen 2
  have b0 := D1b.out.B.cell 0 _ rfl
  have b1 := D1b.out.B.cell 1 _ rfl
  have b2 := D1b.out.B.cell 2 _ rfl
  have fb0 := D1b.out.B.frozen 0
  have fb1 := D1b.out.B.frozen 1
  have fb2 := D1b.out.B.frozen 2
  have r0 := D1b.out.R.cell 0 _ rfl
  have r1 := D1b.out.R.cell 1 _ rfl
  have r2 := D1b.out.R.cell 2 _ rfl
  have fr0 := D1b.out.R.frozen 0
  have fr1 := D1b.out.R.frozen 1
  have fr2 := D1b.out.R.frozen 2
  go_wp2_with (first | (go_at_call 48; (with_reducible refine (SW.out _).mono ?_); rintro e wn ⟨rfl, hb⟩; have D1 := Lib.hid ((D0.out).on hb); clear hb; have a0 := D1.out.A.cell 0 _ rfl; have a1 := D1.out.A.cell 1 _ rfl; have a2 := D1.out.A.cell 2 _ rfl; have fa0 := D1.out.A.frozen 0; have fa1 := D1.out.A.frozen 1; have fa2 := D1.out.A.frozen 2; have b0 := D1.out.B.cell 0 _ rfl; have b1 := D1.out.B.cell 1 _ rfl; have b2 := D1.out.B.cell 2 _ rfl; have fb0 := D1.out.B.frozen 0; have fb1 := D1.out.B.frozen 1; have fb2 := D1.out.B.frozen 2; have r0 := D1.out.R.cell 0 _ rfl; have r1 := D1.out.R.cell 1 _ rfl; have r2 := D1.out.R.cell 2 _ rfl; have fr0 := D1.out.R.frozen 0; have fr1 := D1.out.R.frozen 1; have fr2 := D1.out.R.frozen 2) | (go_at_call 71; (with_reducible refine (HL.out _).mono ?_); rintro e wn ⟨rfl, hb⟩; have D2 := Lib.hid ((D1b.out.swap).on hb); clear hb; have a0 := D2.out.A.cell 0 _ rfl; have a1 := D2.out.A.cell 1 _ rfl; have a2 := D2.out.A.cell 2 _ rfl; have fa0 := D2.out.A.frozen 0; have fa1 := D2.out.A.frozen 1; have fa2 := D2.out.A.frozen 2; have b0 := D2.out.B.cell 0 _ rfl; have b1 := D2.out.B.cell 1 _ rfl; have b2 := D2.out.B.cell 2 _ rfl; have fb0 := D2.out.B.frozen 0; have fb1 := D2.out.B.frozen 1; have fb2 := D2.out.B.frozen 2; have r0 := D2.out.R.cell 0 _ rfl; have r1 := D2.out.R.cell 1 _ rfl; have r2 := D2.out.R.cell 2 _ rfl; have fr0 := D2.out.R.frozen 0; have fr1 := D2.out.R.frozen 1; have fr2 := D2.out.R.frozen 2) | (go_at_call 49; (with_reducible refine (hBfalse _).mono ?_); rintro e wn ⟨rfl, hb⟩; have D3 := Lib.hid ((D2.out).on hb); clear hb; have a0 := D3.out.A.cell 0 _ rfl; have a1 := D3.out.A.cell 1 _ rfl; have a2 := D3.out.A.cell 2 _ rfl; have fa0 := D3.out.A.frozen 0; have fa1 := D3.out.A.frozen 1; have fa2 := D3.out.A.frozen 2; have b0 := D3.out.B.cell 0 _ rfl; have b1 := D3.out.B.cell 1 _ rfl; have b2 := D3.out.B.cell 2 _ rfl; have fb0 := D3.out.B.frozen 0; have fb1 := D3.out.B.frozen 1; have fb2 := D3.out.B.frozen 2; have r0 := D3.out.R.cell 0 _ rfl; have r1 := D3.out.R.cell 1 _ rfl; have r2 := D3.out.R.cell 2 _ rfl; have fr0 := D3.out.R.frozen 0; have fr1 := D3.out.R.frozen 1; have fr2 := D3.out.R.frozen 2))
  refine bodyPost_ret (results_ct rfl _ _ (w.heap.size + 1 + 1) 32 #[.int .i64 1, .int .i64 0, .string ⟨#[]⟩] (0, 0) _ rfl ((D3.out).put 1 0 _).1 Tryd.underlying32 rfl (by kernel_rfl)) rfl ⟨rfl, ((D3.out).put 1 0 _).2⟩
end Go.Proofs.YtpgpmldaggpciaaDoor.GW
