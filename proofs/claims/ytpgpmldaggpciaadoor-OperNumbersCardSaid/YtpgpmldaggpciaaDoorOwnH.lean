/- value.Own and value.Raw, by hand. -/
import Derived.Test.YtpgpmldaggpciaaDoorValH
set_option linter.unusedVariables false
set_option linter.unusedSimpArgs false
namespace Go.Proofs.YtpgpmldaggpciaaDoor.Val
open Go.RowKit Go.Proofs.YtpgpmldaggpciaaDoorW.PrintWords Go.Proofs.YtpgpmldaggpciaaDoorW.PrintLast Go.Proofs.YtpgpmldaggpciaaDoor.Maths Go.Proofs.YtpgpmldaggpciaaDoor.TabW Go.Proofs.YtpgpmldaggpciaaDoor.HK
/-- behind calls: a parameter's block, the result's -/
structure D2 (w : World) (t : TypeId) (k n : Int) (s : ByteArray) (W : World) : Prop where
  sz : w.heap.size + 2 ≤ W.heap.size
  bel : Below w.heap.size w W
  A : Blk W w.heap.size t [.int .i64 k, .int .i64 n, .string s]
  R : Blk W (w.heap.size + 1) t [.int .i64 0, .int .i64 0, .string ⟨#[]⟩]
section
variable {w W W' : World} {t : TypeId} {k n : Int} {s : ByteArray}
theorem D2.on (h : D2 w t k n s W) (hb : Below W.heap.size W W') : D2 w t k n s W' :=
  ⟨Nat.le_trans h.sz hb.size, h.bel.trans (hb.mono h.bel.size), h.A.of (hb.block _ h.A.lt), h.R.of (hb.block _ h.R.lt)⟩
theorem D2.start (w : World) (t : TypeId) (k n : Int) (s : ByteArray) :
    D2 w t k n s ((w.alloc (.cells #[.int .i64 k, .int .i64 n, .string s] t)).alloc (.cells #[.int .i64 0, .int .i64 0, .string ⟨#[]⟩] t)) := by
  have h1 := Blk.new w [.int .i64 k, .int .i64 n, .string s] t
  have h3 := Blk.new (w.alloc (.cells #[.int .i64 k, .int .i64 n, .string s] t)) [.int .i64 0, .int .i64 0, .string ⟨#[]⟩] t
  exact ⟨by simp, bel2 _ _ _, h1.alloc _, by simpa using h3⟩
theorem D2.put (h : D2 w t k n s W) (a b : Int) (c : ByteArray) :
    Blk (((W.setCell ⟨w.heap.size + 1, 0, none⟩ (.int .i64 a)).setCell ⟨w.heap.size + 1, 1, none⟩ (.int .i64 b)).setCell ⟨w.heap.size + 1, 2, none⟩ (.string c)) (w.heap.size + 1) t [.int .i64 a, .int .i64 b, .string c] ∧
    Below w.heap.size w (((W.setCell ⟨w.heap.size + 1, 0, none⟩ (.int .i64 a)).setCell ⟨w.heap.size + 1, 1, none⟩ (.int .i64 b)).setCell ⟨w.heap.size + 1, 2, none⟩ (.string c)) :=
  ⟨((h.R.setSame 0 _).setSame 1 _).setSame 2 _, ((h.bel.setCell (by simp) _).setCell (by simp) _).setCell (by simp) _⟩
end
theorem newR (w : World) (o : Obj) (a b : Int) (c : ByteArray) (t : TypeId) : ((w.alloc o).alloc (.cells #[.int .i64 a, .int .i64 b, .string c] t)).heap[w.heap.size + 1]? = some (.cells #[.int .i64 a, .int .i64 b, .string c] t (0, 0)) := by
  have := Blk.new (w.alloc o) [.int .i64 a, .int .i64 b, .string c] t
  unfold Blk at this
  simpa using this
set_option maxHeartbeats 1000000 in
theorem hOwn (k n : Int) (s : ByteArray) (w : World) : Calls Tryd.prog 91 #[.agg #[.int .i64 k, .int .i64 n, .string s]] w fun e w' => e = .returned (.agg #[.int .i64 (ownK k), .int .i64 (ownN k n), .string (ownS k s)]) ∧ Below w.heap.size w w' := by
  have D0 := Lib.hid (D2.start w 32 k n s)
  have HB := Lib.hid (fun b W => hBool b W)
  have HS := Lib.hid (fun z W => hStr z W)
  by_cases h1 : k = 1
  · subst h1
    have e1 : ownN 1 n = if (n != 0) then 1 else 0 := by by_cases h : n = 0 <;> simp [ownN, h]
    have e2 : ownS 1 s = ⟨#[]⟩ := rfl
    have e3 : ownK 1 = 1 := rfl
    rw [e1, e2, e3]
    clear e1 e2 e3
    obtain ⟨m, hm⟩ : ∃ m : Int, (if (n != 0) then 1 else 0) = m := ⟨_, rfl⟩
    have HB2 : Hid (∀ W : World, Calls Tryd.prog 49 #[.bool (n != 0)] W fun e w' => e = .returned (.agg #[.int .i64 1, .int .i64 m, .string ⟨#[]⟩]) ∧ Below W.heap.size W w') := Lib.hid (fun W => by
      have h := HB.out (n != 0) W
      rw [hm] at h
      exact h)
    rw [hm]
    clear hm HB
    go_enter Tryd.func91, Tryd.ntmps91
    go_wp2_with (go_at_call 49; (with_reducible refine (HB2.out _).mono ?_); rintro e w1 ⟨rfl, hb⟩; have D1 := Lib.hid (D0.out.on hb); clear hb; have a0 := D1.out.A.cell 0 _ rfl; have a1 := D1.out.A.cell 1 _ rfl; have a2 := D1.out.A.cell 2 _ rfl; have r0 := D1.out.R.cell 0 _ rfl; have r1 := D1.out.R.cell 1 _ rfl; have r2 := D1.out.R.cell 2 _ rfl; have f0 := D1.out.R.frozen 0; have f1 := D1.out.R.frozen 1; have f2 := D1.out.R.frozen 2)
    refine bodyPost_ret (results_cell_row rfl _ _ (w.heap.size + 1) 32 #[.int .i64 1, .int .i64 m, .string ⟨#[]⟩] (0, 0) _ rfl (D1.out.put 1 m _).1 Tryd.underlying32 rfl (by kernel_rfl)) rfl ⟨rfl, ?_⟩
    exact (D1.out.put 1 m _).2
  by_cases h3 : k = 3
  · subst h3
    have e1 : ownN 3 n = 0 := rfl
    have e2 : ownS 3 s = s := rfl
    have e3 : ownK 3 = 3 := rfl
    rw [e1, e2, e3]
    clear e1 e2 e3 h1
    go_enter Tryd.func91, Tryd.ntmps91
    go_wp2_with (go_at_call 55; (with_reducible refine (HS.out _ _).mono ?_); rintro e w1 ⟨rfl, hb⟩; have D1 := Lib.hid (D0.out.on hb); clear hb; have a0 := D1.out.A.cell 0 _ rfl; have a1 := D1.out.A.cell 1 _ rfl; have a2 := D1.out.A.cell 2 _ rfl; have r0 := D1.out.R.cell 0 _ rfl; have r1 := D1.out.R.cell 1 _ rfl; have r2 := D1.out.R.cell 2 _ rfl; have f0 := D1.out.R.frozen 0; have f1 := D1.out.R.frozen 1; have f2 := D1.out.R.frozen 2)
    refine bodyPost_ret (results_cell_row rfl _ _ (w.heap.size + 1) 32 #[.int .i64 3, .int .i64 0, .string s] (0, 0) _ rfl (D1.out.put 3 0 _).1 Tryd.underlying32 rfl (by kernel_rfl)) rfl ⟨rfl, ?_⟩
    exact (D1.out.put 3 0 _).2
  have b1 : (k == 1) = false := by simpa using h1
  have b3 : (k == 3) = false := by simpa using h3
  have e2 : ownS k s = ⟨#[]⟩ := by unfold ownS; rw [if_neg h3]
  rw [e2]
  clear e2
  by_cases hk : k = 2 ∨ k = 4 ∨ k = 5 ∨ k = 6 ∨ k = 7
  · have e1 : ownN k n = n := by unfold ownN; rw [if_neg h1, if_pos (by omega)]
    have e3 : ownK k = k := by unfold ownK; rw [if_pos (by omega)]
    rw [e1, e3]
    clear e1 e3 h1 h3
    obtain rfl | rfl | rfl | rfl | rfl := hk
    all_goals
      clear b1 b3
      go_enter Tryd.func91, Tryd.ntmps91
      go_wp2
      refine bodyPost_ret (results_cell_row rfl _ _ (w.heap.size + 1) 32 #[.int .i64 _, .int .i64 n, .string ⟨#[]⟩] (0, 0) _ rfl (newR w _ _ n ⟨#[]⟩ _) Tryd.underlying32 rfl (by kernel_rfl)) rfl ⟨rfl, ?_⟩
      exact bel2 _ _ _
  · have b2 : (k == 2) = false := by simp; omega
    have b4 : (k == 4) = false := by simp; omega
    have b5 : (k == 5) = false := by simp; omega
    have b6 : (k == 6) = false := by simp; omega
    have b7 : (k == 7) = false := by simp; omega
    have e1 : ownN k n = 0 := by unfold ownN; rw [if_neg h1, if_neg (by omega)]
    have e3 : ownK k = 0 := by unfold ownK; split <;> omega
    rw [e1, e3]
    clear e1 e3 h1 h3 hk
    go_enter Tryd.func91, Tryd.ntmps91
    go_wp2
    refine bodyPost_ret (results_cell_row rfl _ _ (w.heap.size + 1) 32 #[.int .i64 0, .int .i64 0, .string ⟨#[]⟩] (0, 0) _ rfl (newR w _ 0 0 ⟨#[]⟩ _) Tryd.underlying32 rfl (by kernel_rfl)) rfl ⟨rfl, ?_⟩
    exact bel2 _ _ _
end Go.Proofs.YtpgpmldaggpciaaDoor.Val
