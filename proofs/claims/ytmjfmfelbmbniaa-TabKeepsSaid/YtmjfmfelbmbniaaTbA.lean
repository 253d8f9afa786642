/- Layer 14: Next of a table. -/
import Derived.Test.YtmjfmfelbmbniaaTaZ
namespace Go.Proofs.Ytmjfmfelbmbniaa
open Go.RowKit Go.Maps HK ShM
set_option linter.unusedVariables false
set_option linter.unusedSimpArgs false
open RH
/-- A table, and boxes beside it, in a world that came later. -/
def TN (w0 w : World) (X B : Nat → Prop) (tb : Nat) (tp mp : Value) (D F : Int) (T : List Sh) (s : Tab) (N xb : Nat) (x : Val) : Prop :=
  TAt w X tb tp mp T s N ∧ Tr w B tp D F T ∧ Below w0.heap.size w0 w ∧ Two w (xb + 1) ∧ Blk w xb 57 x.cells
section
variable {w w' w0 : World} {X Y B : Nat → Prop} {tb i M N d xb : Nat} {tp mp av sv : Value} {T : List Sh} {A S : List Val} {R : Pairs} {s : Tab} {D F : Int} {x : Val}
theorem TN.below (h : TN w0 w X B tb tp mp D F T s N xb x) (hb : Below w.heap.size w w') : TN w0 w' X B tb tp mp D F T s N xb x :=
  ⟨h.1.below hb, h.2.1.below hb, h.2.2.1.trans (hb.mono h.2.2.1.size), h.2.2.2.1.below hb, h.2.2.2.2.of (hb.block _ h.2.2.2.2.lt)⟩
theorem TN.bel (h : TN w0 w X B tb tp mp D F T s N xb x) : Below w0.heap.size w0 w := h.2.2.1
theorem TN.two (h : TN w0 w X B tb tp mp D F T s N xb x) : Two w (xb + 1) := h.2.2.2.1
theorem TN.mode (h : TN w0 w X B tb tp mp D F T s N xb x) : w.cell? ⟨tb, 2, none⟩ = some (.int .i64 (if s.h then 2 else 1)) := by
  obtain ⟨av, sv, rp, hb, _⟩ := h.1.head
  exact hb.cell 2 _ rfl
theorem TN.blk (h : TN w0 w X B tb tp mp D F T s N xb x) (_ : True) : Blk w xb 57 [.int .i64 x.k, .int .i64 x.n, .string x.s] := h.2.2.2.2
theorem tnextM_nil (s : Tab) (x : Val) (h : x.k = 0) : tnextM s x = aboveM s (0 : Nat) := by unfold tnextM; rw [if_pos h]; rfl
theorem tnextM_above (s : Tab) (x : Val) (h : x.k = 2) (h1 : 1 ≤ x.n) (h2 : hasK s.R x = false) : tnextM s x = aboveM s (x.n.toNat : Nat) := by
  unfold tnextM
  rw [if_neg (by omega), if_pos ⟨h, h1, h2⟩, show ((x.n.toNat : Nat) : Int) = x.n by omega]
theorem tnextM_other (s : Tab) (x : Val) (h : x.k ≠ 0) (h1 : ¬ (x.k = 2 ∧ 1 ≤ x.n ∧ hasK s.R x = false)) : tnextM s x = nextM s.R x := by
  unfold tnextM
  rw [if_neg h, if_neg h1]
set_option maxHeartbeats 8000000 in
set_option maxRecDepth 20000 in
theorem tnext_nil (x1 x2 : Int) (x3 : ByteArray) (h : TAt w X tb tp mp T s N) (ht : Tr w B tp D F T) (hx : x3.size ≤ maxLen) (hN : N ≤ 1000000) (hk : x1 = 0) : Calls Try.prog 73 #[.pointer (some ⟨tb, 0, none⟩), .agg #[.int .i64 x1, .int .i64 x2, .string x3]] w fun e w' => e = .returned (.tuple #[(aboveM s (0 : Nat)).1.1.v, (aboveM s (0 : Nat)).1.2.v, .int .i64 (aboveM s (0 : Nat)).2]) ∧ Below w.heap.size w w' := by
  have HB0 : Hid (Below w.heap.size w (((w.alloc (.cells #[.int .i64 x1, .int .i64 x2, .string x3] 57)).alloc (.cells #[.int .i64 0, .int .i64 0, .string ⟨#[]⟩] 57)).alloc (.cells #[.int .i64 0, .int .i64 0, .string ⟨#[]⟩] 57))) := Lib.hid (by (repeat (first | exact Below.refl _ _ | (refine Below.alloc ?_ (by simp <;> omega) _))))
  have D0 : Hid (TN w (((w.alloc (.cells #[.int .i64 x1, .int .i64 x2, .string x3] 57)).alloc (.cells #[.int .i64 0, .int .i64 0, .string ⟨#[]⟩] 57)).alloc (.cells #[.int .i64 0, .int .i64 0, .string ⟨#[]⟩] 57)) X B tb tp mp D F T s N w.heap.size ⟨x1, x2, x3⟩) := Lib.hid (by
    have h1 := Blk.new (w.alloc (.cells #[.int .i64 x1, .int .i64 x2, .string x3] 57)) [.int .i64 0, .int .i64 0, .string ⟨#[]⟩] 57
    have h2 := Blk.new ((w.alloc (.cells #[.int .i64 x1, .int .i64 x2, .string x3] 57)).alloc (.cells #[.int .i64 0, .int .i64 0, .string ⟨#[]⟩] 57)) [.int .i64 0, .int .i64 0, .string ⟨#[]⟩] 57
    exact ⟨h.below HB0.out, ht.below HB0.out, HB0.out, ⟨by simpa using h1.alloc _, by simpa using h2⟩, ((Blk.new w [.int .i64 x1, .int .i64 x2, .string x3] 57).alloc _).alloc _⟩)
  have HB45 : Hid (w.heap.size ≤ w.heap.size + 1 ∧ w.heap.size ≤ w.heap.size + 1 + 1) := Lib.hid (by omega)
  have HT0 := Lib.hid h
  obtain ⟨⟨⟨⟨r1, r2, r3⟩, ⟨s1, s2, s3⟩⟩, ne⟩, hR⟩ : ∃ R', aboveM s (0 : Nat) = R' := ⟨_, rfl⟩
  rw [hR]
  have HAB := Lib.hid (fun (xb : Nat) (W : World) (hW : TN w W X B tb tp mp D F T s N xb ⟨x1, x2, x3⟩) => tabove_calls hW.1 hW.2.1 0 hN)
  rw [hR, show ((0 : Nat) : Int) = 0 from rfl] at HAB
  subst hk
  clear h ht hx hR
  go_enter Try.func73, Try.ntmps73
  go_upto_region 1 with fail
  obtain ⟨xb, hxb⟩ : ∃ z, z = w.heap.size := ⟨_, rfl⟩
  obtain ⟨w1, hw1⟩ : ∃ z, z = (((w.alloc (.cells #[.int .i64 0, .int .i64 x2, .string x3] 57)).alloc (.cells #[.int .i64 0, .int .i64 0, .string ⟨#[]⟩] 57)).alloc (.cells #[.int .i64 0, .int .i64 0, .string ⟨#[]⟩] 57)) := ⟨_, rfl⟩
  have hne45 : xb + 1 + 1 ≠ xb + 1 := by omega
  rw [← hw1] at D0 HB0 ⊢
  rw [← hxb] at D0 ⊢
  have HB45 : Hid (w.heap.size ≤ xb + 1 ∧ w.heap.size ≤ xb + 1 + 1) := Lib.hid (by omega)
  clear hw1 hxb
  have hbk := D0.out.blk trivial
  have x0 := hbk.cell 0 _ rfl
  clear hbk
  have HAC := Lib.hid (HAB.out xb)
  go_wp2_with (go_at_call 124; (with_reducible refine (HAC.out _ D0.out).mono ?_); rintro e w5 ⟨rfl, hb⟩; have HB5 := Lib.hid (D0.out.bel.trans (hb.mono D0.out.bel.size)); have HT5 := Lib.hid (D0.out.two.below hb); clear hb; have a0 := HT5.out.h4.cell 0 _ rfl; have f0 := HT5.out.h4.frozen 0; have a1 := HT5.out.h4.cell 1 _ rfl; have f1 := HT5.out.h4.frozen 1; have a2 := HT5.out.h4.cell 2 _ rfl; have f2 := HT5.out.h4.frozen 2; have b0 := HT5.out.h5.cell 0 _ rfl; have g0 := HT5.out.h5.frozen 0; have b1 := HT5.out.h5.cell 1 _ rfl; have g1 := HT5.out.h5.frozen 1; have b2 := HT5.out.h5.cell 2 _ rfl; have g2 := HT5.out.h5.frozen 2)
  refine bodyPost_ret (results_val3 (x := ⟨r1, r2, r3⟩) (y := ⟨s1, s2, s3⟩) rfl _ rfl rfl rfl ((((((HT5.out.h4.setSame 0 _).setSame 1 _).setSame 2 _).setOther (Ne.symm hne45) _).setOther (Ne.symm hne45) _).setOther (Ne.symm hne45) _) ((((((HT5.out.h5.setOther hne45 _).setOther hne45 _).setOther hne45 _).setSame 0 _).setSame 1 _).setSame 2 _)) rfl ⟨rfl, ?_⟩
  exact (((((HB5.out.setCell HB45.out.1 _).setCell HB45.out.1 _).setCell HB45.out.1 _).setCell HB45.out.2 _).setCell HB45.out.2 _).setCell HB45.out.2 _
set_option maxHeartbeats 8000000 in
set_option maxRecDepth 20000 in
theorem tnext_a (x1 x2 : Int) (x3 : ByteArray) (h : TAt w X tb tp mp T s N) (ht : Tr w B tp D F T) (hx : x3.size ≤ maxLen) (hN : N ≤ 1000000) (hk : x1 ≠ 0) (h2 : x1 ≠ 2) : Calls Try.prog 73 #[.pointer (some ⟨tb, 0, none⟩), .agg #[.int .i64 x1, .int .i64 x2, .string x3]] w fun e w' => e = .returned (.tuple #[(nextM s.R ⟨x1, x2, x3⟩).1.1.v, (nextM s.R ⟨x1, x2, x3⟩).1.2.v, .int .i64 (nextM s.R ⟨x1, x2, x3⟩).2]) ∧ Below w.heap.size w w' := by
  have HB0 : Hid (Below w.heap.size w (((w.alloc (.cells #[.int .i64 x1, .int .i64 x2, .string x3] 57)).alloc (.cells #[.int .i64 0, .int .i64 0, .string ⟨#[]⟩] 57)).alloc (.cells #[.int .i64 0, .int .i64 0, .string ⟨#[]⟩] 57))) := Lib.hid (by (repeat (first | exact Below.refl _ _ | (refine Below.alloc ?_ (by simp <;> omega) _))))
  have D0 : Hid (TN w (((w.alloc (.cells #[.int .i64 x1, .int .i64 x2, .string x3] 57)).alloc (.cells #[.int .i64 0, .int .i64 0, .string ⟨#[]⟩] 57)).alloc (.cells #[.int .i64 0, .int .i64 0, .string ⟨#[]⟩] 57)) X B tb tp mp D F T s N w.heap.size ⟨x1, x2, x3⟩) := Lib.hid (by
    have h1 := Blk.new (w.alloc (.cells #[.int .i64 x1, .int .i64 x2, .string x3] 57)) [.int .i64 0, .int .i64 0, .string ⟨#[]⟩] 57
    have h2 := Blk.new ((w.alloc (.cells #[.int .i64 x1, .int .i64 x2, .string x3] 57)).alloc (.cells #[.int .i64 0, .int .i64 0, .string ⟨#[]⟩] 57)) [.int .i64 0, .int .i64 0, .string ⟨#[]⟩] 57
    exact ⟨h.below HB0.out, ht.below HB0.out, HB0.out, ⟨by simpa using h1.alloc _, by simpa using h2⟩, ((Blk.new w [.int .i64 x1, .int .i64 x2, .string x3] 57).alloc _).alloc _⟩)
  have HB45 : Hid (w.heap.size ≤ w.heap.size + 1 ∧ w.heap.size ≤ w.heap.size + 1 + 1) := Lib.hid (by omega)
  have HT0 := Lib.hid h
  obtain ⟨⟨⟨⟨r1, r2, r3⟩, ⟨s1, s2, s3⟩⟩, ne⟩, hR⟩ : ∃ R', nextM s.R ⟨x1, x2, x3⟩ = R' := ⟨_, rfl⟩
  rw [hR]
  have HAB := Lib.hid (fun (xb : Nat) (W : World) (hW : TN w W X B tb tp mp D F T s N xb ⟨x1, x2, x3⟩) => tnextO_calls hW.1 hW.2.1 ⟨x1, x2, x3⟩ hx)
  rw [hR] at HAB
  have k0 : (x1 == 0) = false := by simp [hk]
  have k2 : (x1 == 2) = false := by simp [h2]
  clear h ht hx hR hk h2
  go_enter Try.func73, Try.ntmps73
  go_upto_region 1 with fail
  obtain ⟨xb, hxb⟩ : ∃ z, z = w.heap.size := ⟨_, rfl⟩
  obtain ⟨w1, hw1⟩ : ∃ z, z = (((w.alloc (.cells #[.int .i64 x1, .int .i64 x2, .string x3] 57)).alloc (.cells #[.int .i64 0, .int .i64 0, .string ⟨#[]⟩] 57)).alloc (.cells #[.int .i64 0, .int .i64 0, .string ⟨#[]⟩] 57)) := ⟨_, rfl⟩
  have hne45 : xb + 1 + 1 ≠ xb + 1 := by omega
  rw [← hw1] at D0 HB0 ⊢
  rw [← hxb] at D0 ⊢
  have HB45 : Hid (w.heap.size ≤ xb + 1 ∧ w.heap.size ≤ xb + 1 + 1) := Lib.hid (by omega)
  clear hw1 hxb
  have HAC := Lib.hid (HAB.out xb)
  have hbk := D0.out.blk trivial
  have x0 := hbk.cell 0 _ rfl
  clear hbk
  go_upto_region 5 with fail
  clear x0
  have BLA : Below w1.heap.size w1 ({ w1 with drawn := w1.drawn + 1 } : World) := ⟨rfl, rfl, rfl, Nat.le_refl _, fun _ _ => rfl⟩
  have DA := Lib.hid (D0.out.below BLA)
  refine wp_region_held (S := fun W : World => Blk W (xb) 57 [.int .i64 x1, .int .i64 x2, .string x3] ∧ True) (by kernel_rfl) ?_
  generalize ({ w1 with drawn := w1.drawn + 1 } : World) = wA at BLA DA ⊢
  have hSA : (fun W : World => Blk W (xb) 57 [.int .i64 x1, .int .i64 x2, .string x3] ∧ True) wA := ⟨DA.out.blk trivial, trivial⟩
  have bxA0 : ∀ W : World, (Blk W (xb) 57 [.int .i64 x1, .int .i64 x2, .string x3] ∧ True) → W.cell? ⟨xb, 0, none⟩ = some (.int .i64 x1) := fun W hW => hW.1.cell 0 _ rfl
  have bxA1 : ∀ W : World, (Blk W (xb) 57 [.int .i64 x1, .int .i64 x2, .string x3] ∧ True) → W.cell? ⟨xb, 1, none⟩ = some (.int .i64 x2) := fun W hW => hW.1.cell 1 _ rfl
  have bxA2 : ∀ W : World, (Blk W (xb) 57 [.int .i64 x1, .int .i64 x2, .string x3] ∧ True) → W.cell? ⟨xb, 2, none⟩ = some (.string x3) := fun W hW => hW.1.cell 2 _ rfl
  refine takeH 0 (oi := ⟨some 22, _, _, _, _, _⟩) (v := ?_) rfl (by kernel_rfl) (by kernel_rfl) (by kernel_rfl) (fun _ _ _ h => h) (Or.inl ⟨by rfl, ?_⟩) hSA ?_
  rotate_left
  · (intro W hW; (try dsimp only at hW); go_simp; try with_reducible rfl)
  try (conv in (Act.put _ _ _) => simp only [Act.put, List.setIfInBounds_toArray, List.set_cons_zero, List.set_cons_succ])
  refine takeH 1 (oi := ⟨some 23, _, _, _, _, _⟩) (v := ?_) rfl (by kernel_rfl) (by kernel_rfl) (by kernel_rfl) (fun _ _ _ h => h) (Or.inl ⟨by rfl, ?_⟩) hSA ?_
  rotate_left
  · (intro W hW; (try dsimp only at hW); go_simp; try with_reducible rfl)
  try (conv in (Act.put _ _ _) => simp only [Act.put, List.setIfInBounds_toArray, List.set_cons_zero, List.set_cons_succ])
  refine takeH 2 (oi := ⟨some 24, _, _, _, _, _⟩) (v := ?_) rfl (by kernel_rfl) (by kernel_rfl) (by kernel_rfl) (fun _ _ _ h => h) (Or.inl ⟨by rfl, ?_⟩) hSA ?_
  rotate_left
  · (intro W hW; (try dsimp only at hW); go_simp; try with_reducible rfl)
  try (conv in (Act.put _ _ _) => simp only [Act.put, List.setIfInBounds_toArray, List.set_cons_zero, List.set_cons_succ])
  refine takeH 3 (oi := ⟨some 25, _, _, _, _, _⟩) (v := ?_) rfl (by kernel_rfl) (by kernel_rfl) (by kernel_rfl) (fun _ _ _ h => h) (Or.inl ⟨by rfl, ?_⟩) hSA ?_
  rotate_left
  · (intro W hW; (try dsimp only at hW); go_simp; try with_reducible rfl)
  try (conv in (Act.put _ _ _) => simp only [Act.put, List.setIfInBounds_toArray, List.set_cons_zero, List.set_cons_succ])
  refine takeH 4 (oi := ⟨some 26, _, _, _, _, _⟩) (v := undef) rfl (by kernel_rfl) (by kernel_rfl) (by kernel_rfl) (fun _ _ _ h => h) (Or.inr ⟨by rfl, rfl⟩) hSA ?_
  try (conv in (Act.put _ _ _) => simp only [Act.put, List.setIfInBounds_toArray, List.set_cons_zero, List.set_cons_succ])
  refine takeH 5 (oi := ⟨some 27, _, _, _, _, _⟩) (v := undef) rfl (by kernel_rfl) (by kernel_rfl) (by kernel_rfl) (fun _ _ _ h => h) (Or.inr ⟨by rfl, rfl⟩) hSA ?_
  try (conv in (Act.put _ _ _) => simp only [Act.put, List.setIfInBounds_toArray, List.set_cons_zero, List.set_cons_succ])
  refine takeH 6 (oi := ⟨some 28, _, _, _, _, _⟩) (v := undef) rfl (by kernel_rfl) (by kernel_rfl) (by kernel_rfl) (fun _ _ _ h => h) (Or.inr ⟨by rfl, rfl⟩) hSA ?_
  try (conv in (Act.put _ _ _) => simp only [Act.put, List.setIfInBounds_toArray, List.set_cons_zero, List.set_cons_succ])
  refine takeH 7 (oi := ⟨some 29, _, _, _, _, _⟩) (v := ?_) rfl (by kernel_rfl) (by kernel_rfl) (by kernel_rfl) (fun _ _ _ h => h) (Or.inl ⟨by rfl, ?_⟩) hSA ?_
  rotate_left
  · (intro W hW; (try dsimp only at hW); go_simp; try with_reducible rfl)
  try (conv in (Act.put _ _ _) => simp only [Act.put, List.setIfInBounds_toArray, List.set_cons_zero, List.set_cons_succ])
  refine takeH 8 (oi := ⟨some 30, _, _, _, _, _⟩) (v := ?_) rfl (by kernel_rfl) (by kernel_rfl) (by kernel_rfl) (fun _ _ _ h => h) (Or.inl ⟨by rfl, ?_⟩) hSA ?_
  rotate_left
  · (intro W hW; (try dsimp only at hW); go_simp; try with_reducible rfl)
  try (conv in (Act.put _ _ _) => simp only [Act.put, List.setIfInBounds_toArray, List.set_cons_zero, List.set_cons_succ])
  refine takeH 9 (oi := ⟨some 31, _, _, _, _, _⟩) (v := undef) rfl (by kernel_rfl) (by kernel_rfl) (by kernel_rfl) (fun _ _ _ h => h) (Or.inr ⟨by rfl, rfl⟩) hSA ?_
  try (conv in (Act.put _ _ _) => simp only [Act.put, List.setIfInBounds_toArray, List.set_cons_zero, List.set_cons_succ])
  refine takeH 10 (oi := ⟨some 32, _, _, _, _, _⟩) (v := undef) rfl (by kernel_rfl) (by kernel_rfl) (by kernel_rfl) (fun _ _ _ h => h) (Or.inr ⟨by rfl, rfl⟩) hSA ?_
  try (conv in (Act.put _ _ _) => simp only [Act.put, List.setIfInBounds_toArray, List.set_cons_zero, List.set_cons_succ])
  refine takeH 11 (oi := ⟨some 33, _, _, _, _, _⟩) (v := undef) rfl (by kernel_rfl) (by kernel_rfl) (by kernel_rfl) (fun _ _ _ h => h) (Or.inr ⟨by rfl, rfl⟩) hSA ?_
  try (conv in (Act.put _ _ _) => simp only [Act.put, List.setIfInBounds_toArray, List.set_cons_zero, List.set_cons_succ])
  refine takeH 12 (oi := ⟨some 34, _, _, _, _, _⟩) (v := undef) rfl (by kernel_rfl) (by kernel_rfl) (by kernel_rfl) (fun _ _ _ h => h) (Or.inr ⟨by rfl, rfl⟩) hSA ?_
  try (conv in (Act.put _ _ _) => simp only [Act.put, List.setIfInBounds_toArray, List.set_cons_zero, List.set_cons_succ])
  refine takeH 13 (oi := ⟨some 35, _, _, _, _, _⟩) (v := undef) rfl (by kernel_rfl) (by kernel_rfl) (by kernel_rfl) (fun _ _ _ h => h) (Or.inr ⟨by rfl, rfl⟩) hSA ?_
  try (conv in (Act.put _ _ _) => simp only [Act.put, List.setIfInBounds_toArray, List.set_cons_zero, List.set_cons_succ])
  refine takeH 14 (oi := ⟨some 36, _, _, _, _, _⟩) (v := undef) rfl (by kernel_rfl) (by kernel_rfl) (by kernel_rfl) (fun _ _ _ h => h) (Or.inr ⟨by rfl, rfl⟩) hSA ?_
  try (conv in (Act.put _ _ _) => simp only [Act.put, List.setIfInBounds_toArray, List.set_cons_zero, List.set_cons_succ])
  refine takeH 15 (oi := ⟨some 37, _, _, _, _, _⟩) (v := undef) rfl (by kernel_rfl) (by kernel_rfl) (by kernel_rfl) (fun _ _ _ h => h) (Or.inr ⟨by rfl, rfl⟩) hSA ?_
  try (conv in (Act.put _ _ _) => simp only [Act.put, List.setIfInBounds_toArray, List.set_cons_zero, List.set_cons_succ])
  refine takeH 16 (oi := ⟨some 38, _, _, _, _, _⟩) (v := undef) rfl (by kernel_rfl) (by kernel_rfl) (by kernel_rfl) (fun _ _ _ h => h) (Or.inr ⟨by rfl, rfl⟩) hSA ?_
  try (conv in (Act.put _ _ _) => simp only [Act.put, List.setIfInBounds_toArray, List.set_cons_zero, List.set_cons_succ])
  refine takeH 17 (oi := ⟨some 39, _, _, _, _, _⟩) (v := undef) rfl (by kernel_rfl) (by kernel_rfl) (by kernel_rfl) (fun _ _ _ h => h) (Or.inr ⟨by rfl, rfl⟩) hSA ?_
  try (conv in (Act.put _ _ _) => simp only [Act.put, List.setIfInBounds_toArray, List.set_cons_zero, List.set_cons_succ])
  refine takeH 18 (oi := ⟨some 40, _, _, _, _, _⟩) (v := undef) rfl (by kernel_rfl) (by kernel_rfl) (by kernel_rfl) (fun _ _ _ h => h) (Or.inr ⟨by rfl, rfl⟩) hSA ?_
  try (conv in (Act.put _ _ _) => simp only [Act.put, List.setIfInBounds_toArray, List.set_cons_zero, List.set_cons_succ])
  refine takeH 19 (oi := ⟨some 41, _, _, _, _, _⟩) (v := undef) rfl (by kernel_rfl) (by kernel_rfl) (by kernel_rfl) (fun _ _ _ h => h) (Or.inr ⟨by rfl, rfl⟩) hSA ?_
  try (conv in (Act.put _ _ _) => simp only [Act.put, List.setIfInBounds_toArray, List.set_cons_zero, List.set_cons_succ])
  refine takeH 20 (oi := ⟨some 42, _, _, _, _, _⟩) (v := undef) rfl (by kernel_rfl) (by kernel_rfl) (by kernel_rfl) (fun _ _ _ h => h) (Or.inr ⟨by rfl, rfl⟩) hSA ?_
  try (conv in (Act.put _ _ _) => simp only [Act.put, List.setIfInBounds_toArray, List.set_cons_zero, List.set_cons_succ])
  refine takeH 21 (oi := ⟨some 43, _, _, _, _, _⟩) (v := undef) rfl (by kernel_rfl) (by kernel_rfl) (by kernel_rfl) (fun _ _ _ h => h) (Or.inr ⟨by rfl, rfl⟩) hSA ?_
  try (conv in (Act.put _ _ _) => simp only [Act.put, List.setIfInBounds_toArray, List.set_cons_zero, List.set_cons_succ])
  refine takeH 22 (oi := ⟨some 44, _, _, _, _, _⟩) (v := undef) rfl (by kernel_rfl) (by kernel_rfl) (by kernel_rfl) (fun _ _ _ h => h) (Or.inr ⟨by rfl, rfl⟩) hSA ?_
  try (conv in (Act.put _ _ _) => simp only [Act.put, List.setIfInBounds_toArray, List.set_cons_zero, List.set_cons_succ])
  refine takeH 23 (oi := ⟨some 45, _, _, _, _, _⟩) (v := ?_) rfl (by kernel_rfl) (by kernel_rfl) (by kernel_rfl) (fun _ _ _ h => h) (Or.inl ⟨by rfl, ?_⟩) hSA ?_
  rotate_left
  · (intro W hW; (try dsimp only at hW); go_simp; try with_reducible rfl)
  try (conv in (Act.put _ _ _) => simp only [Act.put, List.setIfInBounds_toArray, List.set_cons_zero, List.set_cons_succ])
  refine takeH 24 (oi := ⟨some 21, _, _, _, _, _⟩) (v := ?_) rfl (by kernel_rfl) (by kernel_rfl) (by kernel_rfl) (fun _ _ _ h => h) (Or.inl ⟨by rfl, ?_⟩) hSA ?_
  rotate_left
  · (intro W hW; (try dsimp only at hW); go_simp; try with_reducible rfl)
  try (conv in (Act.put _ _ _) => simp only [Act.put, List.setIfInBounds_toArray, List.set_cons_zero, List.set_cons_succ])
  refine wpAnyH_done (by kernel_rfl) ?_ _
  clear bxA0 bxA1 bxA2
  have DZ := Lib.hid DA.out
  generalize wA = wz at DZ ⊢
  have hbk := DZ.out.blk trivial
  have x0 := hbk.cell 0 _ rfl
  have x1c := hbk.cell 1 _ rfl
  have x2c := hbk.cell 2 _ rfl
  clear hbk
  go_wp2_with (go_at_call 125; (with_reducible refine (HAC.out _ DZ.out).mono ?_); rintro e w5 ⟨rfl, hb⟩; have HB5 := Lib.hid (DZ.out.bel.trans (hb.mono DZ.out.bel.size)); have HT5 := Lib.hid (DZ.out.two.below hb); clear hb; have a0 := HT5.out.h4.cell 0 _ rfl; have f0 := HT5.out.h4.frozen 0; have a1 := HT5.out.h4.cell 1 _ rfl; have f1 := HT5.out.h4.frozen 1; have a2 := HT5.out.h4.cell 2 _ rfl; have f2 := HT5.out.h4.frozen 2; have b0 := HT5.out.h5.cell 0 _ rfl; have g0 := HT5.out.h5.frozen 0; have b1 := HT5.out.h5.cell 1 _ rfl; have g1 := HT5.out.h5.frozen 1; have b2 := HT5.out.h5.cell 2 _ rfl; have g2 := HT5.out.h5.frozen 2)
  refine bodyPost_ret (results_val3 (x := ⟨r1, r2, r3⟩) (y := ⟨s1, s2, s3⟩) rfl _ rfl rfl rfl ((((((HT5.out.h4.setSame 0 _).setSame 1 _).setSame 2 _).setOther (Ne.symm hne45) _).setOther (Ne.symm hne45) _).setOther (Ne.symm hne45) _) ((((((HT5.out.h5.setOther hne45 _).setOther hne45 _).setOther hne45 _).setSame 0 _).setSame 1 _).setSame 2 _)) rfl ⟨rfl, ?_⟩
  exact (((((HB5.out.setCell HB45.out.1 _).setCell HB45.out.1 _).setCell HB45.out.1 _).setCell HB45.out.2 _).setCell HB45.out.2 _).setCell HB45.out.2 _
set_option maxHeartbeats 8000000 in
set_option maxRecDepth 20000 in
theorem tnext_b (x1 x2 : Int) (x3 : ByteArray) (h : TAt w X tb tp mp T s N) (ht : Tr w B tp D F T) (hx : x3.size ≤ maxLen) (hN : N ≤ 1000000) (hk : x1 = 2) (h2 : x2 < 1) : Calls Try.prog 73 #[.pointer (some ⟨tb, 0, none⟩), .agg #[.int .i64 x1, .int .i64 x2, .string x3]] w fun e w' => e = .returned (.tuple #[(nextM s.R ⟨x1, x2, x3⟩).1.1.v, (nextM s.R ⟨x1, x2, x3⟩).1.2.v, .int .i64 (nextM s.R ⟨x1, x2, x3⟩).2]) ∧ Below w.heap.size w w' := by
  have HB0 : Hid (Below w.heap.size w (((w.alloc (.cells #[.int .i64 x1, .int .i64 x2, .string x3] 57)).alloc (.cells #[.int .i64 0, .int .i64 0, .string ⟨#[]⟩] 57)).alloc (.cells #[.int .i64 0, .int .i64 0, .string ⟨#[]⟩] 57))) := Lib.hid (by (repeat (first | exact Below.refl _ _ | (refine Below.alloc ?_ (by simp <;> omega) _))))
  have D0 : Hid (TN w (((w.alloc (.cells #[.int .i64 x1, .int .i64 x2, .string x3] 57)).alloc (.cells #[.int .i64 0, .int .i64 0, .string ⟨#[]⟩] 57)).alloc (.cells #[.int .i64 0, .int .i64 0, .string ⟨#[]⟩] 57)) X B tb tp mp D F T s N w.heap.size ⟨x1, x2, x3⟩) := Lib.hid (by
    have h1 := Blk.new (w.alloc (.cells #[.int .i64 x1, .int .i64 x2, .string x3] 57)) [.int .i64 0, .int .i64 0, .string ⟨#[]⟩] 57
    have h2 := Blk.new ((w.alloc (.cells #[.int .i64 x1, .int .i64 x2, .string x3] 57)).alloc (.cells #[.int .i64 0, .int .i64 0, .string ⟨#[]⟩] 57)) [.int .i64 0, .int .i64 0, .string ⟨#[]⟩] 57
    exact ⟨h.below HB0.out, ht.below HB0.out, HB0.out, ⟨by simpa using h1.alloc _, by simpa using h2⟩, ((Blk.new w [.int .i64 x1, .int .i64 x2, .string x3] 57).alloc _).alloc _⟩)
  have HB45 : Hid (w.heap.size ≤ w.heap.size + 1 ∧ w.heap.size ≤ w.heap.size + 1 + 1) := Lib.hid (by omega)
  have HT0 := Lib.hid h
  obtain ⟨⟨⟨⟨r1, r2, r3⟩, ⟨s1, s2, s3⟩⟩, ne⟩, hR⟩ : ∃ R', nextM s.R ⟨x1, x2, x3⟩ = R' := ⟨_, rfl⟩
  rw [hR]
  have HAB := Lib.hid (fun (xb : Nat) (W : World) (hW : TN w W X B tb tp mp D F T s N xb ⟨x1, x2, x3⟩) => tnextO_calls hW.1 hW.2.1 ⟨x1, x2, x3⟩ hx)
  rw [hR] at HAB
  subst hk
  have k2 : decide (1 ≤ x2) = false := decide_eq_false (by omega)
  clear h ht hx hR h2
  go_enter Try.func73, Try.ntmps73
  go_upto_region 1 with fail
  obtain ⟨xb, hxb⟩ : ∃ z, z = w.heap.size := ⟨_, rfl⟩
  obtain ⟨w1, hw1⟩ : ∃ z, z = (((w.alloc (.cells #[.int .i64 2, .int .i64 x2, .string x3] 57)).alloc (.cells #[.int .i64 0, .int .i64 0, .string ⟨#[]⟩] 57)).alloc (.cells #[.int .i64 0, .int .i64 0, .string ⟨#[]⟩] 57)) := ⟨_, rfl⟩
  have hne45 : xb + 1 + 1 ≠ xb + 1 := by omega
  rw [← hw1] at D0 HB0 ⊢
  rw [← hxb] at D0 ⊢
  have HB45 : Hid (w.heap.size ≤ xb + 1 ∧ w.heap.size ≤ xb + 1 + 1) := Lib.hid (by omega)
  clear hw1 hxb
  have HAC := Lib.hid (HAB.out xb)
  have hbk := D0.out.blk trivial
  have x0 := hbk.cell 0 _ rfl
  clear hbk
  go_upto_region 5 with fail
  clear x0
  have BLB : Below w1.heap.size w1 ({ w1 with drawn := w1.drawn + 1 } : World) := ⟨rfl, rfl, rfl, Nat.le_refl _, fun _ _ => rfl⟩
  have DB := Lib.hid (D0.out.below BLB)
  refine wp_region_held (S := fun W : World => Blk W (xb) 57 [.int .i64 2, .int .i64 x2, .string x3] ∧ True) (by kernel_rfl) ?_
  generalize ({ w1 with drawn := w1.drawn + 1 } : World) = wB at BLB DB ⊢
  have hSB : (fun W : World => Blk W (xb) 57 [.int .i64 2, .int .i64 x2, .string x3] ∧ True) wB := ⟨DB.out.blk trivial, trivial⟩
  have bxB0 : ∀ W : World, (Blk W (xb) 57 [.int .i64 2, .int .i64 x2, .string x3] ∧ True) → W.cell? ⟨xb, 0, none⟩ = some (.int .i64 2) := fun W hW => hW.1.cell 0 _ rfl
  have bxB1 : ∀ W : World, (Blk W (xb) 57 [.int .i64 2, .int .i64 x2, .string x3] ∧ True) → W.cell? ⟨xb, 1, none⟩ = some (.int .i64 x2) := fun W hW => hW.1.cell 1 _ rfl
  have bxB2 : ∀ W : World, (Blk W (xb) 57 [.int .i64 2, .int .i64 x2, .string x3] ∧ True) → W.cell? ⟨xb, 2, none⟩ = some (.string x3) := fun W hW => hW.1.cell 2 _ rfl
  refine takeH 0 (oi := ⟨some 22, _, _, _, _, _⟩) (v := ?_) rfl (by kernel_rfl) (by kernel_rfl) (by kernel_rfl) (fun _ _ _ h => h) (Or.inl ⟨by rfl, ?_⟩) hSB ?_
  rotate_left
  · (intro W hW; (try dsimp only at hW); go_simp; try with_reducible rfl)
  try (conv in (Act.put _ _ _) => simp only [Act.put, List.setIfInBounds_toArray, List.set_cons_zero, List.set_cons_succ])
  refine takeH 1 (oi := ⟨some 23, _, _, _, _, _⟩) (v := ?_) rfl (by kernel_rfl) (by kernel_rfl) (by kernel_rfl) (fun _ _ _ h => h) (Or.inl ⟨by rfl, ?_⟩) hSB ?_
  rotate_left
  · (intro W hW; (try dsimp only at hW); go_simp; try with_reducible rfl)
  try (conv in (Act.put _ _ _) => simp only [Act.put, List.setIfInBounds_toArray, List.set_cons_zero, List.set_cons_succ])
  refine takeH 2 (oi := ⟨some 24, _, _, _, _, _⟩) (v := ?_) rfl (by kernel_rfl) (by kernel_rfl) (by kernel_rfl) (fun _ _ _ h => h) (Or.inl ⟨by rfl, ?_⟩) hSB ?_
  rotate_left
  · (intro W hW; (try dsimp only at hW); go_simp; try with_reducible rfl)
  try (conv in (Act.put _ _ _) => simp only [Act.put, List.setIfInBounds_toArray, List.set_cons_zero, List.set_cons_succ])
  refine takeH 3 (oi := ⟨some 25, _, _, _, _, _⟩) (v := ?_) rfl (by kernel_rfl) (by kernel_rfl) (by kernel_rfl) (fun _ _ _ h => h) (Or.inl ⟨by rfl, ?_⟩) hSB ?_
  rotate_left
  · (intro W hW; (try dsimp only at hW); go_simp; try with_reducible rfl)
  try (conv in (Act.put _ _ _) => simp only [Act.put, List.setIfInBounds_toArray, List.set_cons_zero, List.set_cons_succ])
  refine takeH 4 (oi := ⟨some 26, _, _, _, _, _⟩) (v := ?_) rfl (by kernel_rfl) (by kernel_rfl) (by kernel_rfl) (fun _ _ _ h => h) (Or.inl ⟨by rfl, ?_⟩) hSB ?_
  rotate_left
  · (intro W hW; (try dsimp only at hW); go_simp; try with_reducible rfl)
  try (conv in (Act.put _ _ _) => simp only [Act.put, List.setIfInBounds_toArray, List.set_cons_zero, List.set_cons_succ])
  refine takeH 5 (oi := ⟨some 27, _, _, _, _, _⟩) (v := ?_) rfl (by kernel_rfl) (by kernel_rfl) (by kernel_rfl) (fun _ _ _ h => h) (Or.inl ⟨by rfl, ?_⟩) hSB ?_
  rotate_left
  · (intro W hW; (try dsimp only at hW); go_simp; try with_reducible rfl)
  try (conv in (Act.put _ _ _) => simp only [Act.put, List.setIfInBounds_toArray, List.set_cons_zero, List.set_cons_succ])
  refine takeH 6 (oi := ⟨some 28, _, _, _, _, _⟩) (v := ?_) rfl (by kernel_rfl) (by kernel_rfl) (by kernel_rfl) (fun _ _ _ h => h) (Or.inl ⟨by rfl, ?_⟩) hSB ?_
  rotate_left
  · (intro W hW; (try dsimp only at hW); go_simp; try with_reducible rfl)
  try (conv in (Act.put _ _ _) => simp only [Act.put, List.setIfInBounds_toArray, List.set_cons_zero, List.set_cons_succ])
  refine takeH 7 (oi := ⟨some 29, _, _, _, _, _⟩) (v := ?_) rfl (by kernel_rfl) (by kernel_rfl) (by kernel_rfl) (fun _ _ _ h => h) (Or.inl ⟨by rfl, ?_⟩) hSB ?_
  rotate_left
  · (intro W hW; (try dsimp only at hW); go_simp; try with_reducible rfl)
  try (conv in (Act.put _ _ _) => simp only [Act.put, List.setIfInBounds_toArray, List.set_cons_zero, List.set_cons_succ])
  refine takeH 8 (oi := ⟨some 30, _, _, _, _, _⟩) (v := ?_) rfl (by kernel_rfl) (by kernel_rfl) (by kernel_rfl) (fun _ _ _ h => h) (Or.inl ⟨by rfl, ?_⟩) hSB ?_
  rotate_left
  · (intro W hW; (try dsimp only at hW); go_simp; try with_reducible rfl)
  try (conv in (Act.put _ _ _) => simp only [Act.put, List.setIfInBounds_toArray, List.set_cons_zero, List.set_cons_succ])
  refine takeH 9 (oi := ⟨some 31, _, _, _, _, _⟩) (v := undef) rfl (by kernel_rfl) (by kernel_rfl) (by kernel_rfl) (fun _ _ _ h => h) (Or.inr ⟨by rfl, rfl⟩) hSB ?_
  try (conv in (Act.put _ _ _) => simp only [Act.put, List.setIfInBounds_toArray, List.set_cons_zero, List.set_cons_succ])
  refine takeH 10 (oi := ⟨some 32, _, _, _, _, _⟩) (v := undef) rfl (by kernel_rfl) (by kernel_rfl) (by kernel_rfl) (fun _ _ _ h => h) (Or.inr ⟨by rfl, rfl⟩) hSB ?_
  try (conv in (Act.put _ _ _) => simp only [Act.put, List.setIfInBounds_toArray, List.set_cons_zero, List.set_cons_succ])
  refine takeH 11 (oi := ⟨some 33, _, _, _, _, _⟩) (v := undef) rfl (by kernel_rfl) (by kernel_rfl) (by kernel_rfl) (fun _ _ _ h => h) (Or.inr ⟨by rfl, rfl⟩) hSB ?_
  try (conv in (Act.put _ _ _) => simp only [Act.put, List.setIfInBounds_toArray, List.set_cons_zero, List.set_cons_succ])
  refine takeH 12 (oi := ⟨some 34, _, _, _, _, _⟩) (v := undef) rfl (by kernel_rfl) (by kernel_rfl) (by kernel_rfl) (fun _ _ _ h => h) (Or.inr ⟨by rfl, rfl⟩) hSB ?_
  try (conv in (Act.put _ _ _) => simp only [Act.put, List.setIfInBounds_toArray, List.set_cons_zero, List.set_cons_succ])
  refine takeH 13 (oi := ⟨some 35, _, _, _, _, _⟩) (v := undef) rfl (by kernel_rfl) (by kernel_rfl) (by kernel_rfl) (fun _ _ _ h => h) (Or.inr ⟨by rfl, rfl⟩) hSB ?_
  try (conv in (Act.put _ _ _) => simp only [Act.put, List.setIfInBounds_toArray, List.set_cons_zero, List.set_cons_succ])
  refine takeH 14 (oi := ⟨some 36, _, _, _, _, _⟩) (v := undef) rfl (by kernel_rfl) (by kernel_rfl) (by kernel_rfl) (fun _ _ _ h => h) (Or.inr ⟨by rfl, rfl⟩) hSB ?_
  try (conv in (Act.put _ _ _) => simp only [Act.put, List.setIfInBounds_toArray, List.set_cons_zero, List.set_cons_succ])
  refine takeH 15 (oi := ⟨some 37, _, _, _, _, _⟩) (v := undef) rfl (by kernel_rfl) (by kernel_rfl) (by kernel_rfl) (fun _ _ _ h => h) (Or.inr ⟨by rfl, rfl⟩) hSB ?_
  try (conv in (Act.put _ _ _) => simp only [Act.put, List.setIfInBounds_toArray, List.set_cons_zero, List.set_cons_succ])
  refine takeH 16 (oi := ⟨some 38, _, _, _, _, _⟩) (v := undef) rfl (by kernel_rfl) (by kernel_rfl) (by kernel_rfl) (fun _ _ _ h => h) (Or.inr ⟨by rfl, rfl⟩) hSB ?_
  try (conv in (Act.put _ _ _) => simp only [Act.put, List.setIfInBounds_toArray, List.set_cons_zero, List.set_cons_succ])
  refine takeH 17 (oi := ⟨some 39, _, _, _, _, _⟩) (v := undef) rfl (by kernel_rfl) (by kernel_rfl) (by kernel_rfl) (fun _ _ _ h => h) (Or.inr ⟨by rfl, rfl⟩) hSB ?_
  try (conv in (Act.put _ _ _) => simp only [Act.put, List.setIfInBounds_toArray, List.set_cons_zero, List.set_cons_succ])
  refine takeH 18 (oi := ⟨some 40, _, _, _, _, _⟩) (v := undef) rfl (by kernel_rfl) (by kernel_rfl) (by kernel_rfl) (fun _ _ _ h => h) (Or.inr ⟨by rfl, rfl⟩) hSB ?_
  try (conv in (Act.put _ _ _) => simp only [Act.put, List.setIfInBounds_toArray, List.set_cons_zero, List.set_cons_succ])
  refine takeH 19 (oi := ⟨some 41, _, _, _, _, _⟩) (v := undef) rfl (by kernel_rfl) (by kernel_rfl) (by kernel_rfl) (fun _ _ _ h => h) (Or.inr ⟨by rfl, rfl⟩) hSB ?_
  try (conv in (Act.put _ _ _) => simp only [Act.put, List.setIfInBounds_toArray, List.set_cons_zero, List.set_cons_succ])
  refine takeH 20 (oi := ⟨some 42, _, _, _, _, _⟩) (v := undef) rfl (by kernel_rfl) (by kernel_rfl) (by kernel_rfl) (fun _ _ _ h => h) (Or.inr ⟨by rfl, rfl⟩) hSB ?_
  try (conv in (Act.put _ _ _) => simp only [Act.put, List.setIfInBounds_toArray, List.set_cons_zero, List.set_cons_succ])
  refine takeH 21 (oi := ⟨some 43, _, _, _, _, _⟩) (v := undef) rfl (by kernel_rfl) (by kernel_rfl) (by kernel_rfl) (fun _ _ _ h => h) (Or.inr ⟨by rfl, rfl⟩) hSB ?_
  try (conv in (Act.put _ _ _) => simp only [Act.put, List.setIfInBounds_toArray, List.set_cons_zero, List.set_cons_succ])
  refine takeH 22 (oi := ⟨some 44, _, _, _, _, _⟩) (v := undef) rfl (by kernel_rfl) (by kernel_rfl) (by kernel_rfl) (fun _ _ _ h => h) (Or.inr ⟨by rfl, rfl⟩) hSB ?_
  try (conv in (Act.put _ _ _) => simp only [Act.put, List.setIfInBounds_toArray, List.set_cons_zero, List.set_cons_succ])
  refine takeH 23 (oi := ⟨some 45, _, _, _, _, _⟩) (v := ?_) rfl (by kernel_rfl) (by kernel_rfl) (by kernel_rfl) (fun _ _ _ h => h) (Or.inl ⟨by rfl, ?_⟩) hSB ?_
  rotate_left
  · (intro W hW; (try dsimp only at hW); go_simp; try with_reducible rfl)
  try (conv in (Act.put _ _ _) => simp only [Act.put, List.setIfInBounds_toArray, List.set_cons_zero, List.set_cons_succ])
  refine takeH 24 (oi := ⟨some 21, _, _, _, _, _⟩) (v := ?_) rfl (by kernel_rfl) (by kernel_rfl) (by kernel_rfl) (fun _ _ _ h => h) (Or.inl ⟨by rfl, ?_⟩) hSB ?_
  rotate_left
  · (intro W hW; (try dsimp only at hW); go_simp; try with_reducible rfl)
  try (conv in (Act.put _ _ _) => simp only [Act.put, List.setIfInBounds_toArray, List.set_cons_zero, List.set_cons_succ])
  refine wpAnyH_done (by kernel_rfl) ?_ _
  clear bxB0 bxB1 bxB2
  have DZ := Lib.hid DB.out
  generalize wB = wz at DZ ⊢
  have hbk := DZ.out.blk trivial
  have x0 := hbk.cell 0 _ rfl
  have x1c := hbk.cell 1 _ rfl
  have x2c := hbk.cell 2 _ rfl
  clear hbk
  go_wp2_with (go_at_call 125; (with_reducible refine (HAC.out _ DZ.out).mono ?_); rintro e w5 ⟨rfl, hb⟩; have HB5 := Lib.hid (DZ.out.bel.trans (hb.mono DZ.out.bel.size)); have HT5 := Lib.hid (DZ.out.two.below hb); clear hb; have a0 := HT5.out.h4.cell 0 _ rfl; have f0 := HT5.out.h4.frozen 0; have a1 := HT5.out.h4.cell 1 _ rfl; have f1 := HT5.out.h4.frozen 1; have a2 := HT5.out.h4.cell 2 _ rfl; have f2 := HT5.out.h4.frozen 2; have b0 := HT5.out.h5.cell 0 _ rfl; have g0 := HT5.out.h5.frozen 0; have b1 := HT5.out.h5.cell 1 _ rfl; have g1 := HT5.out.h5.frozen 1; have b2 := HT5.out.h5.cell 2 _ rfl; have g2 := HT5.out.h5.frozen 2)
  refine bodyPost_ret (results_val3 (x := ⟨r1, r2, r3⟩) (y := ⟨s1, s2, s3⟩) rfl _ rfl rfl rfl ((((((HT5.out.h4.setSame 0 _).setSame 1 _).setSame 2 _).setOther (Ne.symm hne45) _).setOther (Ne.symm hne45) _).setOther (Ne.symm hne45) _) ((((((HT5.out.h5.setOther hne45 _).setOther hne45 _).setOther hne45 _).setSame 0 _).setSame 1 _).setSame 2 _)) rfl ⟨rfl, ?_⟩
  exact (((((HB5.out.setCell HB45.out.1 _).setCell HB45.out.1 _).setCell HB45.out.1 _).setCell HB45.out.2 _).setCell HB45.out.2 _).setCell HB45.out.2 _
set_option maxHeartbeats 8000000 in
set_option maxRecDepth 20000 in
theorem tnext_c (x1 x2 : Int) (x3 : ByteArray) (h : TAt w X tb tp mp T s N) (ht : Tr w B tp D F T) (hx : x3.size ≤ maxLen) (hN : N ≤ 1000000) (hk : x1 = 2) (h2 : 1 ≤ x2) (hh : s.h = false) : Calls Try.prog 73 #[.pointer (some ⟨tb, 0, none⟩), .agg #[.int .i64 x1, .int .i64 x2, .string x3]] w fun e w' => e = .returned (.tuple #[(aboveM s (x2.toNat : Nat)).1.1.v, (aboveM s (x2.toNat : Nat)).1.2.v, .int .i64 (aboveM s (x2.toNat : Nat)).2]) ∧ Below w.heap.size w w' := by
  have HB0 : Hid (Below w.heap.size w (((w.alloc (.cells #[.int .i64 x1, .int .i64 x2, .string x3] 57)).alloc (.cells #[.int .i64 0, .int .i64 0, .string ⟨#[]⟩] 57)).alloc (.cells #[.int .i64 0, .int .i64 0, .string ⟨#[]⟩] 57))) := Lib.hid (by (repeat (first | exact Below.refl _ _ | (refine Below.alloc ?_ (by simp <;> omega) _))))
  have D0 : Hid (TN w (((w.alloc (.cells #[.int .i64 x1, .int .i64 x2, .string x3] 57)).alloc (.cells #[.int .i64 0, .int .i64 0, .string ⟨#[]⟩] 57)).alloc (.cells #[.int .i64 0, .int .i64 0, .string ⟨#[]⟩] 57)) X B tb tp mp D F T s N w.heap.size ⟨x1, x2, x3⟩) := Lib.hid (by
    have h1 := Blk.new (w.alloc (.cells #[.int .i64 x1, .int .i64 x2, .string x3] 57)) [.int .i64 0, .int .i64 0, .string ⟨#[]⟩] 57
    have h2 := Blk.new ((w.alloc (.cells #[.int .i64 x1, .int .i64 x2, .string x3] 57)).alloc (.cells #[.int .i64 0, .int .i64 0, .string ⟨#[]⟩] 57)) [.int .i64 0, .int .i64 0, .string ⟨#[]⟩] 57
    exact ⟨h.below HB0.out, ht.below HB0.out, HB0.out, ⟨by simpa using h1.alloc _, by simpa using h2⟩, ((Blk.new w [.int .i64 x1, .int .i64 x2, .string x3] 57).alloc _).alloc _⟩)
  have HB45 : Hid (w.heap.size ≤ w.heap.size + 1 ∧ w.heap.size ≤ w.heap.size + 1 + 1) := Lib.hid (by omega)
  have HT0 := Lib.hid h
  obtain ⟨⟨⟨⟨r1, r2, r3⟩, ⟨s1, s2, s3⟩⟩, ne⟩, hR⟩ : ∃ R', aboveM s (x2.toNat : Nat) = R' := ⟨_, rfl⟩
  rw [hR]
  have HAB := Lib.hid (fun (xb : Nat) (W : World) (hW : TN w W X B tb tp mp D F T s N xb ⟨x1, x2, x3⟩) => tabove_calls hW.1 hW.2.1 x2.toNat hN)
  rw [hR, show ((x2.toNat : Nat) : Int) = x2 by omega] at HAB
  have HMD := Lib.hid (fun (xb : Nat) (W : World) (hW : TN w W X B tb tp mp D F T s N xb ⟨x1, x2, x3⟩) => hW.mode)
  rw [hh] at HMD
  have HMD : Hid (∀ (xb : Nat) (W : World), TN w W X B tb tp mp D F T s N xb ⟨x1, x2, x3⟩ → W.cell? ⟨tb, 2, none⟩ = some (.int .i64 1)) := HMD
  subst hk
  have k2 : decide (1 ≤ x2) = true := decide_eq_true (by omega)
  clear h ht hx hR
  go_enter Try.func73, Try.ntmps73
  go_upto_region 1 with fail
  obtain ⟨xb, hxb⟩ : ∃ z, z = w.heap.size := ⟨_, rfl⟩
  obtain ⟨w1, hw1⟩ : ∃ z, z = (((w.alloc (.cells #[.int .i64 2, .int .i64 x2, .string x3] 57)).alloc (.cells #[.int .i64 0, .int .i64 0, .string ⟨#[]⟩] 57)).alloc (.cells #[.int .i64 0, .int .i64 0, .string ⟨#[]⟩] 57)) := ⟨_, rfl⟩
  have hne45 : xb + 1 + 1 ≠ xb + 1 := by omega
  rw [← hw1] at D0 HB0 ⊢
  rw [← hxb] at D0 ⊢
  have HB45 : Hid (w.heap.size ≤ xb + 1 ∧ w.heap.size ≤ xb + 1 + 1) := Lib.hid (by omega)
  clear hw1 hxb
  have HAC := Lib.hid (HAB.out xb)
  have hbk := D0.out.blk trivial
  have x0 := hbk.cell 0 _ rfl
  clear hbk
  go_upto_region 5 with fail
  clear x0
  have BLC : Below w1.heap.size w1 ({ w1 with drawn := w1.drawn + 1 } : World) := ⟨rfl, rfl, rfl, Nat.le_refl _, fun _ _ => rfl⟩
  have DC := Lib.hid (D0.out.below BLC)
  refine wp_region_held (S := fun W : World => Blk W (xb) 57 [.int .i64 2, .int .i64 x2, .string x3] ∧ (W.cell? ⟨tb, 2, none⟩ = some (.int .i64 1)) ∧ True) (by kernel_rfl) ?_
  generalize ({ w1 with drawn := w1.drawn + 1 } : World) = wC at BLC DC ⊢
  have hSC : (fun W : World => Blk W (xb) 57 [.int .i64 2, .int .i64 x2, .string x3] ∧ (W.cell? ⟨tb, 2, none⟩ = some (.int .i64 1)) ∧ True) wC := ⟨DC.out.blk trivial, (HMD.out xb _ DC.out), trivial⟩
  have bxC0 : ∀ W : World, (Blk W (xb) 57 [.int .i64 2, .int .i64 x2, .string x3] ∧ (W.cell? ⟨tb, 2, none⟩ = some (.int .i64 1)) ∧ True) → W.cell? ⟨xb, 0, none⟩ = some (.int .i64 2) := fun W hW => hW.1.cell 0 _ rfl
  have bxC1 : ∀ W : World, (Blk W (xb) 57 [.int .i64 2, .int .i64 x2, .string x3] ∧ (W.cell? ⟨tb, 2, none⟩ = some (.int .i64 1)) ∧ True) → W.cell? ⟨xb, 1, none⟩ = some (.int .i64 x2) := fun W hW => hW.1.cell 1 _ rfl
  have bxC2 : ∀ W : World, (Blk W (xb) 57 [.int .i64 2, .int .i64 x2, .string x3] ∧ (W.cell? ⟨tb, 2, none⟩ = some (.int .i64 1)) ∧ True) → W.cell? ⟨xb, 2, none⟩ = some (.string x3) := fun W hW => hW.1.cell 2 _ rfl
  have mdC : ∀ W : World, (Blk W (xb) 57 [.int .i64 2, .int .i64 x2, .string x3] ∧ (W.cell? ⟨tb, 2, none⟩ = some (.int .i64 1)) ∧ True) → W.cell? ⟨tb, 2, none⟩ = some (.int .i64 1) := fun W hW => hW.2.1
  refine takeH 0 (oi := ⟨some 22, _, _, _, _, _⟩) (v := ?_) rfl (by kernel_rfl) (by kernel_rfl) (by kernel_rfl) (fun _ _ _ h => h) (Or.inl ⟨by rfl, ?_⟩) hSC ?_
  rotate_left
  · (intro W hW; (try dsimp only at hW); go_simp; try with_reducible rfl)
  try (conv in (Act.put _ _ _) => simp only [Act.put, List.setIfInBounds_toArray, List.set_cons_zero, List.set_cons_succ])
  refine takeH 1 (oi := ⟨some 23, _, _, _, _, _⟩) (v := ?_) rfl (by kernel_rfl) (by kernel_rfl) (by kernel_rfl) (fun _ _ _ h => h) (Or.inl ⟨by rfl, ?_⟩) hSC ?_
  rotate_left
  · (intro W hW; (try dsimp only at hW); go_simp; try with_reducible rfl)
  try (conv in (Act.put _ _ _) => simp only [Act.put, List.setIfInBounds_toArray, List.set_cons_zero, List.set_cons_succ])
  refine takeH 2 (oi := ⟨some 24, _, _, _, _, _⟩) (v := ?_) rfl (by kernel_rfl) (by kernel_rfl) (by kernel_rfl) (fun _ _ _ h => h) (Or.inl ⟨by rfl, ?_⟩) hSC ?_
  rotate_left
  · (intro W hW; (try dsimp only at hW); go_simp; try with_reducible rfl)
  try (conv in (Act.put _ _ _) => simp only [Act.put, List.setIfInBounds_toArray, List.set_cons_zero, List.set_cons_succ])
  refine takeH 3 (oi := ⟨some 25, _, _, _, _, _⟩) (v := ?_) rfl (by kernel_rfl) (by kernel_rfl) (by kernel_rfl) (fun _ _ _ h => h) (Or.inl ⟨by rfl, ?_⟩) hSC ?_
  rotate_left
  · (intro W hW; (try dsimp only at hW); go_simp; try with_reducible rfl)
  try (conv in (Act.put _ _ _) => simp only [Act.put, List.setIfInBounds_toArray, List.set_cons_zero, List.set_cons_succ])
  refine takeH 4 (oi := ⟨some 26, _, _, _, _, _⟩) (v := ?_) rfl (by kernel_rfl) (by kernel_rfl) (by kernel_rfl) (fun _ _ _ h => h) (Or.inl ⟨by rfl, ?_⟩) hSC ?_
  rotate_left
  · (intro W hW; (try dsimp only at hW); go_simp; try with_reducible rfl)
  try (conv in (Act.put _ _ _) => simp only [Act.put, List.setIfInBounds_toArray, List.set_cons_zero, List.set_cons_succ])
  refine takeH 5 (oi := ⟨some 27, _, _, _, _, _⟩) (v := ?_) rfl (by kernel_rfl) (by kernel_rfl) (by kernel_rfl) (fun _ _ _ h => h) (Or.inl ⟨by rfl, ?_⟩) hSC ?_
  rotate_left
  · (intro W hW; (try dsimp only at hW); go_simp; try with_reducible rfl)
  try (conv in (Act.put _ _ _) => simp only [Act.put, List.setIfInBounds_toArray, List.set_cons_zero, List.set_cons_succ])
  refine takeH 6 (oi := ⟨some 28, _, _, _, _, _⟩) (v := ?_) rfl (by kernel_rfl) (by kernel_rfl) (by kernel_rfl) (fun _ _ _ h => h) (Or.inl ⟨by rfl, ?_⟩) hSC ?_
  rotate_left
  · (intro W hW; (try dsimp only at hW); go_simp; try with_reducible rfl)
  try (conv in (Act.put _ _ _) => simp only [Act.put, List.setIfInBounds_toArray, List.set_cons_zero, List.set_cons_succ])
  refine takeH 7 (oi := ⟨some 29, _, _, _, _, _⟩) (v := ?_) rfl (by kernel_rfl) (by kernel_rfl) (by kernel_rfl) (fun _ _ _ h => h) (Or.inl ⟨by rfl, ?_⟩) hSC ?_
  rotate_left
  · (intro W hW; (try dsimp only at hW); go_simp; try with_reducible rfl)
  try (conv in (Act.put _ _ _) => simp only [Act.put, List.setIfInBounds_toArray, List.set_cons_zero, List.set_cons_succ])
  refine takeH 8 (oi := ⟨some 30, _, _, _, _, _⟩) (v := ?_) rfl (by kernel_rfl) (by kernel_rfl) (by kernel_rfl) (fun _ _ _ h => h) (Or.inl ⟨by rfl, ?_⟩) hSC ?_
  rotate_left
  · (intro W hW; (try dsimp only at hW); go_simp; try with_reducible rfl)
  try (conv in (Act.put _ _ _) => simp only [Act.put, List.setIfInBounds_toArray, List.set_cons_zero, List.set_cons_succ])
  refine takeH 9 (oi := ⟨some 31, _, _, _, _, _⟩) (v := ?_) rfl (by kernel_rfl) (by kernel_rfl) (by kernel_rfl) (fun _ _ _ h => h) (Or.inl ⟨by rfl, ?_⟩) hSC ?_
  rotate_left
  · (intro W hW; (try dsimp only at hW); go_simp; try with_reducible rfl)
  try (conv in (Act.put _ _ _) => simp only [Act.put, List.setIfInBounds_toArray, List.set_cons_zero, List.set_cons_succ])
  refine takeH 10 (oi := ⟨some 32, _, _, _, _, _⟩) (v := ?_) rfl (by kernel_rfl) (by kernel_rfl) (by kernel_rfl) (fun _ _ _ h => h) (Or.inl ⟨by rfl, ?_⟩) hSC ?_
  rotate_left
  · (intro W hW; (try dsimp only at hW); go_simp; try with_reducible rfl)
  try (conv in (Act.put _ _ _) => simp only [Act.put, List.setIfInBounds_toArray, List.set_cons_zero, List.set_cons_succ])
  refine takeH 11 (oi := ⟨some 33, _, _, _, _, _⟩) (v := ?_) rfl (by kernel_rfl) (by kernel_rfl) (by kernel_rfl) (fun _ _ _ h => h) (Or.inl ⟨by rfl, ?_⟩) hSC ?_
  rotate_left
  · (intro W hW; (try dsimp only at hW); go_simp; try with_reducible rfl)
  try (conv in (Act.put _ _ _) => simp only [Act.put, List.setIfInBounds_toArray, List.set_cons_zero, List.set_cons_succ])
  refine takeH 12 (oi := ⟨some 34, _, _, _, _, _⟩) (v := ?_) rfl (by kernel_rfl) (by kernel_rfl) (by kernel_rfl) (fun _ _ _ h => h) (Or.inl ⟨by rfl, ?_⟩) hSC ?_
  rotate_left
  · (intro W hW; (try dsimp only at hW); go_simp; try with_reducible rfl)
  try (conv in (Act.put _ _ _) => simp only [Act.put, List.setIfInBounds_toArray, List.set_cons_zero, List.set_cons_succ])
  refine takeH 13 (oi := ⟨some 35, _, _, _, _, _⟩) (v := ?_) rfl (by kernel_rfl) (by kernel_rfl) (by kernel_rfl) (fun _ _ _ h => h) (Or.inl ⟨by rfl, ?_⟩) hSC ?_
  rotate_left
  · (intro W hW; (try dsimp only at hW); go_simp; try with_reducible rfl)
  try (conv in (Act.put _ _ _) => simp only [Act.put, List.setIfInBounds_toArray, List.set_cons_zero, List.set_cons_succ])
  refine takeH 14 (oi := ⟨some 36, _, _, _, _, _⟩) (v := ?_) rfl (by kernel_rfl) (by kernel_rfl) (by kernel_rfl) (fun _ _ _ h => h) (Or.inl ⟨by rfl, ?_⟩) hSC ?_
  rotate_left
  · (intro W hW; (try dsimp only at hW); go_simp; try with_reducible rfl)
  try (conv in (Act.put _ _ _) => simp only [Act.put, List.setIfInBounds_toArray, List.set_cons_zero, List.set_cons_succ])
  refine takeH 15 (oi := ⟨some 37, _, _, _, _, _⟩) (v := undef) rfl (by kernel_rfl) (by kernel_rfl) (by kernel_rfl) (fun _ _ _ h => h) (Or.inr ⟨by rfl, rfl⟩) hSC ?_
  try (conv in (Act.put _ _ _) => simp only [Act.put, List.setIfInBounds_toArray, List.set_cons_zero, List.set_cons_succ])
  refine takeH 16 (oi := ⟨some 38, _, _, _, _, _⟩) (v := undef) rfl (by kernel_rfl) (by kernel_rfl) (by kernel_rfl) (fun _ _ _ h => h) (Or.inr ⟨by rfl, rfl⟩) hSC ?_
  try (conv in (Act.put _ _ _) => simp only [Act.put, List.setIfInBounds_toArray, List.set_cons_zero, List.set_cons_succ])
  refine takeH 17 (oi := ⟨some 39, _, _, _, _, _⟩) (v := undef) rfl (by kernel_rfl) (by kernel_rfl) (by kernel_rfl) (fun _ _ _ h => h) (Or.inr ⟨by rfl, rfl⟩) hSC ?_
  try (conv in (Act.put _ _ _) => simp only [Act.put, List.setIfInBounds_toArray, List.set_cons_zero, List.set_cons_succ])
  refine takeH 18 (oi := ⟨some 40, _, _, _, _, _⟩) (v := undef) rfl (by kernel_rfl) (by kernel_rfl) (by kernel_rfl) (fun _ _ _ h => h) (Or.inr ⟨by rfl, rfl⟩) hSC ?_
  try (conv in (Act.put _ _ _) => simp only [Act.put, List.setIfInBounds_toArray, List.set_cons_zero, List.set_cons_succ])
  refine takeH 19 (oi := ⟨some 41, _, _, _, _, _⟩) (v := undef) rfl (by kernel_rfl) (by kernel_rfl) (by kernel_rfl) (fun _ _ _ h => h) (Or.inr ⟨by rfl, rfl⟩) hSC ?_
  try (conv in (Act.put _ _ _) => simp only [Act.put, List.setIfInBounds_toArray, List.set_cons_zero, List.set_cons_succ])
  refine takeH 20 (oi := ⟨some 42, _, _, _, _, _⟩) (v := undef) rfl (by kernel_rfl) (by kernel_rfl) (by kernel_rfl) (fun _ _ _ h => h) (Or.inr ⟨by rfl, rfl⟩) hSC ?_
  try (conv in (Act.put _ _ _) => simp only [Act.put, List.setIfInBounds_toArray, List.set_cons_zero, List.set_cons_succ])
  refine takeH 21 (oi := ⟨some 43, _, _, _, _, _⟩) (v := undef) rfl (by kernel_rfl) (by kernel_rfl) (by kernel_rfl) (fun _ _ _ h => h) (Or.inr ⟨by rfl, rfl⟩) hSC ?_
  try (conv in (Act.put _ _ _) => simp only [Act.put, List.setIfInBounds_toArray, List.set_cons_zero, List.set_cons_succ])
  refine takeH 22 (oi := ⟨some 44, _, _, _, _, _⟩) (v := ?_) rfl (by kernel_rfl) (by kernel_rfl) (by kernel_rfl) (fun _ _ _ h => h) (Or.inl ⟨by rfl, ?_⟩) hSC ?_
  rotate_left
  · (intro W hW; (try dsimp only at hW); go_simp; try with_reducible rfl)
  try (conv in (Act.put _ _ _) => simp only [Act.put, List.setIfInBounds_toArray, List.set_cons_zero, List.set_cons_succ])
  refine takeH 23 (oi := ⟨some 45, _, _, _, _, _⟩) (v := ?_) rfl (by kernel_rfl) (by kernel_rfl) (by kernel_rfl) (fun _ _ _ h => h) (Or.inl ⟨by rfl, ?_⟩) hSC ?_
  rotate_left
  · (intro W hW; (try dsimp only at hW); go_simp; try with_reducible rfl)
  try (conv in (Act.put _ _ _) => simp only [Act.put, List.setIfInBounds_toArray, List.set_cons_zero, List.set_cons_succ])
  refine takeH 24 (oi := ⟨some 21, _, _, _, _, _⟩) (v := ?_) rfl (by kernel_rfl) (by kernel_rfl) (by kernel_rfl) (fun _ _ _ h => h) (Or.inl ⟨by rfl, ?_⟩) hSC ?_
  rotate_left
  · (intro W hW; (try dsimp only at hW); go_simp; try with_reducible rfl)
  try (conv in (Act.put _ _ _) => simp only [Act.put, List.setIfInBounds_toArray, List.set_cons_zero, List.set_cons_succ])
  refine wpAnyH_done (by kernel_rfl) ?_ _
  clear bxC0 bxC1 bxC2 mdC
  have DZ := Lib.hid DC.out
  generalize wC = wz at DZ ⊢
  have hbk := DZ.out.blk trivial
  have x0 := hbk.cell 0 _ rfl
  have x1c := hbk.cell 1 _ rfl
  have x2c := hbk.cell 2 _ rfl
  clear hbk
  go_wp2_with (go_at_call 124; (with_reducible refine (HAC.out _ DZ.out).mono ?_); rintro e w5 ⟨rfl, hb⟩; have HB5 := Lib.hid (DZ.out.bel.trans (hb.mono DZ.out.bel.size)); have HT5 := Lib.hid (DZ.out.two.below hb); clear hb; have a0 := HT5.out.h4.cell 0 _ rfl; have f0 := HT5.out.h4.frozen 0; have a1 := HT5.out.h4.cell 1 _ rfl; have f1 := HT5.out.h4.frozen 1; have a2 := HT5.out.h4.cell 2 _ rfl; have f2 := HT5.out.h4.frozen 2; have b0 := HT5.out.h5.cell 0 _ rfl; have g0 := HT5.out.h5.frozen 0; have b1 := HT5.out.h5.cell 1 _ rfl; have g1 := HT5.out.h5.frozen 1; have b2 := HT5.out.h5.cell 2 _ rfl; have g2 := HT5.out.h5.frozen 2)
  refine bodyPost_ret (results_val3 (x := ⟨r1, r2, r3⟩) (y := ⟨s1, s2, s3⟩) rfl _ rfl rfl rfl ((((((HT5.out.h4.setSame 0 _).setSame 1 _).setSame 2 _).setOther (Ne.symm hne45) _).setOther (Ne.symm hne45) _).setOther (Ne.symm hne45) _) ((((((HT5.out.h5.setOther hne45 _).setOther hne45 _).setOther hne45 _).setSame 0 _).setSame 1 _).setSame 2 _)) rfl ⟨rfl, ?_⟩
  exact (((((HB5.out.setCell HB45.out.1 _).setCell HB45.out.1 _).setCell HB45.out.1 _).setCell HB45.out.2 _).setCell HB45.out.2 _).setCell HB45.out.2 _
set_option maxHeartbeats 8000000 in
set_option maxRecDepth 20000 in
theorem tnext_d (x1 x2 : Int) (x3 : ByteArray) (h : TAt w X tb tp mp T s N) (ht : Tr w B tp D F T) (hx : x3.size ≤ maxLen) (hN : N ≤ 1000000) (hk : x1 = 2) (h2 : 1 ≤ x2) (hh : s.h = true) (hv : hasK s.R ⟨x1, x2, x3⟩ = false) : Calls Try.prog 73 #[.pointer (some ⟨tb, 0, none⟩), .agg #[.int .i64 x1, .int .i64 x2, .string x3]] w fun e w' => e = .returned (.tuple #[(aboveM s (x2.toNat : Nat)).1.1.v, (aboveM s (x2.toNat : Nat)).1.2.v, .int .i64 (aboveM s (x2.toNat : Nat)).2]) ∧ Below w.heap.size w w' := by
  have HB0 : Hid (Below w.heap.size w (((w.alloc (.cells #[.int .i64 x1, .int .i64 x2, .string x3] 57)).alloc (.cells #[.int .i64 0, .int .i64 0, .string ⟨#[]⟩] 57)).alloc (.cells #[.int .i64 0, .int .i64 0, .string ⟨#[]⟩] 57))) := Lib.hid (by (repeat (first | exact Below.refl _ _ | (refine Below.alloc ?_ (by simp <;> omega) _))))
  have D0 : Hid (TN w (((w.alloc (.cells #[.int .i64 x1, .int .i64 x2, .string x3] 57)).alloc (.cells #[.int .i64 0, .int .i64 0, .string ⟨#[]⟩] 57)).alloc (.cells #[.int .i64 0, .int .i64 0, .string ⟨#[]⟩] 57)) X B tb tp mp D F T s N w.heap.size ⟨x1, x2, x3⟩) := Lib.hid (by
    have h1 := Blk.new (w.alloc (.cells #[.int .i64 x1, .int .i64 x2, .string x3] 57)) [.int .i64 0, .int .i64 0, .string ⟨#[]⟩] 57
    have h2 := Blk.new ((w.alloc (.cells #[.int .i64 x1, .int .i64 x2, .string x3] 57)).alloc (.cells #[.int .i64 0, .int .i64 0, .string ⟨#[]⟩] 57)) [.int .i64 0, .int .i64 0, .string ⟨#[]⟩] 57
    exact ⟨h.below HB0.out, ht.below HB0.out, HB0.out, ⟨by simpa using h1.alloc _, by simpa using h2⟩, ((Blk.new w [.int .i64 x1, .int .i64 x2, .string x3] 57).alloc _).alloc _⟩)
  have HB45 : Hid (w.heap.size ≤ w.heap.size + 1 ∧ w.heap.size ≤ w.heap.size + 1 + 1) := Lib.hid (by omega)
  have HT0 := Lib.hid h
  obtain ⟨⟨⟨⟨r1, r2, r3⟩, ⟨s1, s2, s3⟩⟩, ne⟩, hR⟩ : ∃ R', aboveM s (x2.toNat : Nat) = R' := ⟨_, rfl⟩
  rw [hR]
  have HAB := Lib.hid (fun (xb : Nat) (W : World) (hW : TN w W X B tb tp mp D F T s N xb ⟨x1, x2, x3⟩) => tabove_calls hW.1 hW.2.1 x2.toNat hN)
  rw [hR, show ((x2.toNat : Nat) : Int) = x2 by omega] at HAB
  have HMD := Lib.hid (fun (xb : Nat) (W : World) (hW : TN w W X B tb tp mp D F T s N xb ⟨x1, x2, x3⟩) => hW.mode)
  rw [hh] at HMD
  have HMD : Hid (∀ (xb : Nat) (W : World), TN w W X B tb tp mp D F T s N xb ⟨x1, x2, x3⟩ → W.cell? ⟨tb, 2, none⟩ = some (.int .i64 2)) := HMD
  obtain ⟨_, ⟨hq, _⟩ | ⟨_, _, av, d, Y, hha⟩⟩ := HT0.out
  · rw [hh] at hq; cases hq
  have HCL := Lib.hid (fun (W : World) (hW : Below w.heap.size w W) => (hha.below hW).hd.cell 5 _ rfl)
  have HHS := Lib.hid (fun (W : World) (hW : Below w.heap.size w W) => dhas_calls (hha.dict.below hW) ⟨x1, x2, x3⟩ hx)
  rw [hv] at HHS
  subst hk
  have k2 : decide (1 ≤ x2) = true := decide_eq_true (by omega)
  clear h ht hx hR hha hv
  go_enter Try.func73, Try.ntmps73
  go_upto_region 1 with fail
  obtain ⟨xb, hxb⟩ : ∃ z, z = w.heap.size := ⟨_, rfl⟩
  obtain ⟨w1, hw1⟩ : ∃ z, z = (((w.alloc (.cells #[.int .i64 2, .int .i64 x2, .string x3] 57)).alloc (.cells #[.int .i64 0, .int .i64 0, .string ⟨#[]⟩] 57)).alloc (.cells #[.int .i64 0, .int .i64 0, .string ⟨#[]⟩] 57)) := ⟨_, rfl⟩
  have hne45 : xb + 1 + 1 ≠ xb + 1 := by omega
  rw [← hw1] at D0 HB0 ⊢
  rw [← hxb] at D0 ⊢
  have HB45 : Hid (w.heap.size ≤ xb + 1 ∧ w.heap.size ≤ xb + 1 + 1) := Lib.hid (by omega)
  clear hw1 hxb
  have HAC := Lib.hid (HAB.out xb)
  have hbk := D0.out.blk trivial
  have x0 := hbk.cell 0 _ rfl
  clear hbk
  go_upto_region 5 with fail
  clear x0
  have BLD : Below w1.heap.size w1 ({ w1 with drawn := w1.drawn + 1 } : World) := ⟨rfl, rfl, rfl, Nat.le_refl _, fun _ _ => rfl⟩
  have DD := Lib.hid (D0.out.below BLD)
  refine wp_region_held (S := fun W : World => Blk W (xb) 57 [.int .i64 2, .int .i64 x2, .string x3] ∧ (W.cell? ⟨tb, 2, none⟩ = some (.int .i64 2)) ∧ (W.cell? ⟨tb, 5, none⟩ = some (.pointer (some ⟨d, 0, none⟩))) ∧ True) (by kernel_rfl) ?_
  generalize ({ w1 with drawn := w1.drawn + 1 } : World) = wD at BLD DD ⊢
  have hSD : (fun W : World => Blk W (xb) 57 [.int .i64 2, .int .i64 x2, .string x3] ∧ (W.cell? ⟨tb, 2, none⟩ = some (.int .i64 2)) ∧ (W.cell? ⟨tb, 5, none⟩ = some (.pointer (some ⟨d, 0, none⟩))) ∧ True) wD := ⟨DD.out.blk trivial, (HMD.out xb _ DD.out), (HCL.out _ DD.out.bel), trivial⟩
  have bxD0 : ∀ W : World, (Blk W (xb) 57 [.int .i64 2, .int .i64 x2, .string x3] ∧ (W.cell? ⟨tb, 2, none⟩ = some (.int .i64 2)) ∧ (W.cell? ⟨tb, 5, none⟩ = some (.pointer (some ⟨d, 0, none⟩))) ∧ True) → W.cell? ⟨xb, 0, none⟩ = some (.int .i64 2) := fun W hW => hW.1.cell 0 _ rfl
  have bxD1 : ∀ W : World, (Blk W (xb) 57 [.int .i64 2, .int .i64 x2, .string x3] ∧ (W.cell? ⟨tb, 2, none⟩ = some (.int .i64 2)) ∧ (W.cell? ⟨tb, 5, none⟩ = some (.pointer (some ⟨d, 0, none⟩))) ∧ True) → W.cell? ⟨xb, 1, none⟩ = some (.int .i64 x2) := fun W hW => hW.1.cell 1 _ rfl
  have bxD2 : ∀ W : World, (Blk W (xb) 57 [.int .i64 2, .int .i64 x2, .string x3] ∧ (W.cell? ⟨tb, 2, none⟩ = some (.int .i64 2)) ∧ (W.cell? ⟨tb, 5, none⟩ = some (.pointer (some ⟨d, 0, none⟩))) ∧ True) → W.cell? ⟨xb, 2, none⟩ = some (.string x3) := fun W hW => hW.1.cell 2 _ rfl
  have mdD : ∀ W : World, (Blk W (xb) 57 [.int .i64 2, .int .i64 x2, .string x3] ∧ (W.cell? ⟨tb, 2, none⟩ = some (.int .i64 2)) ∧ (W.cell? ⟨tb, 5, none⟩ = some (.pointer (some ⟨d, 0, none⟩))) ∧ True) → W.cell? ⟨tb, 2, none⟩ = some (.int .i64 2) := fun W hW => hW.2.1
  have rsD : ∀ W : World, (Blk W (xb) 57 [.int .i64 2, .int .i64 x2, .string x3] ∧ (W.cell? ⟨tb, 2, none⟩ = some (.int .i64 2)) ∧ (W.cell? ⟨tb, 5, none⟩ = some (.pointer (some ⟨d, 0, none⟩))) ∧ True) → W.cell? ⟨tb, 5, none⟩ = some (.pointer (some ⟨d, 0, none⟩)) := fun W hW => hW.2.2.1
  refine takeH 0 (oi := ⟨some 22, _, _, _, _, _⟩) (v := ?_) rfl (by kernel_rfl) (by kernel_rfl) (by kernel_rfl) (fun _ _ _ h => h) (Or.inl ⟨by rfl, ?_⟩) hSD ?_
  rotate_left
  · (intro W hW; (try dsimp only at hW); go_simp; try with_reducible rfl)
  try (conv in (Act.put _ _ _) => simp only [Act.put, List.setIfInBounds_toArray, List.set_cons_zero, List.set_cons_succ])
  refine takeH 1 (oi := ⟨some 23, _, _, _, _, _⟩) (v := ?_) rfl (by kernel_rfl) (by kernel_rfl) (by kernel_rfl) (fun _ _ _ h => h) (Or.inl ⟨by rfl, ?_⟩) hSD ?_
  rotate_left
  · (intro W hW; (try dsimp only at hW); go_simp; try with_reducible rfl)
  try (conv in (Act.put _ _ _) => simp only [Act.put, List.setIfInBounds_toArray, List.set_cons_zero, List.set_cons_succ])
  refine takeH 2 (oi := ⟨some 24, _, _, _, _, _⟩) (v := ?_) rfl (by kernel_rfl) (by kernel_rfl) (by kernel_rfl) (fun _ _ _ h => h) (Or.inl ⟨by rfl, ?_⟩) hSD ?_
  rotate_left
  · (intro W hW; (try dsimp only at hW); go_simp; try with_reducible rfl)
  try (conv in (Act.put _ _ _) => simp only [Act.put, List.setIfInBounds_toArray, List.set_cons_zero, List.set_cons_succ])
  refine takeH 3 (oi := ⟨some 25, _, _, _, _, _⟩) (v := ?_) rfl (by kernel_rfl) (by kernel_rfl) (by kernel_rfl) (fun _ _ _ h => h) (Or.inl ⟨by rfl, ?_⟩) hSD ?_
  rotate_left
  · (intro W hW; (try dsimp only at hW); go_simp; try with_reducible rfl)
  try (conv in (Act.put _ _ _) => simp only [Act.put, List.setIfInBounds_toArray, List.set_cons_zero, List.set_cons_succ])
  refine takeH 4 (oi := ⟨some 26, _, _, _, _, _⟩) (v := ?_) rfl (by kernel_rfl) (by kernel_rfl) (by kernel_rfl) (fun _ _ _ h => h) (Or.inl ⟨by rfl, ?_⟩) hSD ?_
  rotate_left
  · (intro W hW; (try dsimp only at hW); go_simp; try with_reducible rfl)
  try (conv in (Act.put _ _ _) => simp only [Act.put, List.setIfInBounds_toArray, List.set_cons_zero, List.set_cons_succ])
  refine takeH 5 (oi := ⟨some 27, _, _, _, _, _⟩) (v := ?_) rfl (by kernel_rfl) (by kernel_rfl) (by kernel_rfl) (fun _ _ _ h => h) (Or.inl ⟨by rfl, ?_⟩) hSD ?_
  rotate_left
  · (intro W hW; (try dsimp only at hW); go_simp; try with_reducible rfl)
  try (conv in (Act.put _ _ _) => simp only [Act.put, List.setIfInBounds_toArray, List.set_cons_zero, List.set_cons_succ])
  refine takeH 6 (oi := ⟨some 28, _, _, _, _, _⟩) (v := ?_) rfl (by kernel_rfl) (by kernel_rfl) (by kernel_rfl) (fun _ _ _ h => h) (Or.inl ⟨by rfl, ?_⟩) hSD ?_
  rotate_left
  · (intro W hW; (try dsimp only at hW); go_simp; try with_reducible rfl)
  try (conv in (Act.put _ _ _) => simp only [Act.put, List.setIfInBounds_toArray, List.set_cons_zero, List.set_cons_succ])
  refine takeH 7 (oi := ⟨some 29, _, _, _, _, _⟩) (v := ?_) rfl (by kernel_rfl) (by kernel_rfl) (by kernel_rfl) (fun _ _ _ h => h) (Or.inl ⟨by rfl, ?_⟩) hSD ?_
  rotate_left
  · (intro W hW; (try dsimp only at hW); go_simp; try with_reducible rfl)
  try (conv in (Act.put _ _ _) => simp only [Act.put, List.setIfInBounds_toArray, List.set_cons_zero, List.set_cons_succ])
  refine takeH 8 (oi := ⟨some 30, _, _, _, _, _⟩) (v := ?_) rfl (by kernel_rfl) (by kernel_rfl) (by kernel_rfl) (fun _ _ _ h => h) (Or.inl ⟨by rfl, ?_⟩) hSD ?_
  rotate_left
  · (intro W hW; (try dsimp only at hW); go_simp; try with_reducible rfl)
  try (conv in (Act.put _ _ _) => simp only [Act.put, List.setIfInBounds_toArray, List.set_cons_zero, List.set_cons_succ])
  refine takeH 9 (oi := ⟨some 31, _, _, _, _, _⟩) (v := ?_) rfl (by kernel_rfl) (by kernel_rfl) (by kernel_rfl) (fun _ _ _ h => h) (Or.inl ⟨by rfl, ?_⟩) hSD ?_
  rotate_left
  · (intro W hW; (try dsimp only at hW); go_simp; try with_reducible rfl)
  try (conv in (Act.put _ _ _) => simp only [Act.put, List.setIfInBounds_toArray, List.set_cons_zero, List.set_cons_succ])
  refine takeH 10 (oi := ⟨some 32, _, _, _, _, _⟩) (v := ?_) rfl (by kernel_rfl) (by kernel_rfl) (by kernel_rfl) (fun _ _ _ h => h) (Or.inl ⟨by rfl, ?_⟩) hSD ?_
  rotate_left
  · (intro W hW; (try dsimp only at hW); go_simp; try with_reducible rfl)
  try (conv in (Act.put _ _ _) => simp only [Act.put, List.setIfInBounds_toArray, List.set_cons_zero, List.set_cons_succ])
  refine takeH 11 (oi := ⟨some 33, _, _, _, _, _⟩) (v := ?_) rfl (by kernel_rfl) (by kernel_rfl) (by kernel_rfl) (fun _ _ _ h => h) (Or.inl ⟨by rfl, ?_⟩) hSD ?_
  rotate_left
  · (intro W hW; (try dsimp only at hW); go_simp; try with_reducible rfl)
  try (conv in (Act.put _ _ _) => simp only [Act.put, List.setIfInBounds_toArray, List.set_cons_zero, List.set_cons_succ])
  refine takeH 12 (oi := ⟨some 34, _, _, _, _, _⟩) (v := ?_) rfl (by kernel_rfl) (by kernel_rfl) (by kernel_rfl) (fun _ _ _ h => h) (Or.inl ⟨by rfl, ?_⟩) hSD ?_
  rotate_left
  · (intro W hW; (try dsimp only at hW); go_simp; try with_reducible rfl)
  try (conv in (Act.put _ _ _) => simp only [Act.put, List.setIfInBounds_toArray, List.set_cons_zero, List.set_cons_succ])
  refine takeH 13 (oi := ⟨some 35, _, _, _, _, _⟩) (v := ?_) rfl (by kernel_rfl) (by kernel_rfl) (by kernel_rfl) (fun _ _ _ h => h) (Or.inl ⟨by rfl, ?_⟩) hSD ?_
  rotate_left
  · (intro W hW; (try dsimp only at hW); go_simp; try with_reducible rfl)
  try (conv in (Act.put _ _ _) => simp only [Act.put, List.setIfInBounds_toArray, List.set_cons_zero, List.set_cons_succ])
  refine takeH 14 (oi := ⟨some 36, _, _, _, _, _⟩) (v := ?_) rfl (by kernel_rfl) (by kernel_rfl) (by kernel_rfl) (fun _ _ _ h => h) (Or.inl ⟨by rfl, ?_⟩) hSD ?_
  rotate_left
  · (intro W hW; (try dsimp only at hW); go_simp; try with_reducible rfl)
  try (conv in (Act.put _ _ _) => simp only [Act.put, List.setIfInBounds_toArray, List.set_cons_zero, List.set_cons_succ])
  refine takeH 15 (oi := ⟨some 37, _, _, _, _, _⟩) (v := ?_) rfl (by kernel_rfl) (by kernel_rfl) (by kernel_rfl) (fun _ _ _ h => h) (Or.inl ⟨by rfl, ?_⟩) hSD ?_
  rotate_left
  · (intro W hW; (try dsimp only at hW); go_simp; try with_reducible rfl)
  try (conv in (Act.put _ _ _) => simp only [Act.put, List.setIfInBounds_toArray, List.set_cons_zero, List.set_cons_succ])
  refine takeH 16 (oi := ⟨some 38, _, _, _, _, _⟩) (v := ?_) rfl (by kernel_rfl) (by kernel_rfl) (by kernel_rfl) (fun _ _ _ h => h) (Or.inl ⟨by rfl, ?_⟩) hSD ?_
  rotate_left
  · (intro W hW; (try dsimp only at hW); go_simp; try with_reducible rfl)
  try (conv in (Act.put _ _ _) => simp only [Act.put, List.setIfInBounds_toArray, List.set_cons_zero, List.set_cons_succ])
  refine takeH 17 (oi := ⟨some 39, _, _, _, _, _⟩) (v := ?_) rfl (by kernel_rfl) (by kernel_rfl) (by kernel_rfl) (fun _ _ _ h => h) (Or.inl ⟨by rfl, ?_⟩) hSD ?_
  rotate_left
  · (intro W hW; (try dsimp only at hW); go_simp; try with_reducible rfl)
  try (conv in (Act.put _ _ _) => simp only [Act.put, List.setIfInBounds_toArray, List.set_cons_zero, List.set_cons_succ])
  refine takeH 18 (oi := ⟨some 40, _, _, _, _, _⟩) (v := ?_) rfl (by kernel_rfl) (by kernel_rfl) (by kernel_rfl) (fun _ _ _ h => h) (Or.inl ⟨by rfl, ?_⟩) hSD ?_
  rotate_left
  · (intro W hW; (try dsimp only at hW); go_simp; try with_reducible rfl)
  try (conv in (Act.put _ _ _) => simp only [Act.put, List.setIfInBounds_toArray, List.set_cons_zero, List.set_cons_succ])
  refine takeH 19 (oi := ⟨some 41, _, _, _, _, _⟩) (v := ?_) rfl (by kernel_rfl) (by kernel_rfl) (by kernel_rfl) (fun _ _ _ h => h) (Or.inl ⟨by rfl, ?_⟩) hSD ?_
  rotate_left
  · (intro W hW; (try dsimp only at hW); go_simp; try with_reducible rfl)
  try (conv in (Act.put _ _ _) => simp only [Act.put, List.setIfInBounds_toArray, List.set_cons_zero, List.set_cons_succ])
  refine one (i := 20) (by kernel_rfl) ?_
  refine wpOp_wanted rfl (by rfl) fun K hK => ?_
  go_simp
  with_reducible refine (HHS.out _ DD.out.bel).mono ?_
  rintro e wD96 ⟨rfl, hb⟩
  have DD96 := Lib.hid (DD.out.below hb)
  clear hb
  have SD96 : (fun W : World => Blk W (xb) 57 [.int .i64 2, .int .i64 x2, .string x3] ∧ (W.cell? ⟨tb, 2, none⟩ = some (.int .i64 2)) ∧ (W.cell? ⟨tb, 5, none⟩ = some (.pointer (some ⟨d, 0, none⟩))) ∧ True) wD96 := ⟨DD96.out.blk trivial, (HMD.out xb _ DD96.out), (HCL.out _ DD96.out.bel), trivial⟩
  refine hK _ _ ⟨SD96, ?_⟩
  clear hK K
  try (conv in (Act.put _ _ _) => simp only [Act.put, List.setIfInBounds_toArray, List.set_cons_zero, List.set_cons_succ])
  refine takeH 21 (oi := ⟨some 43, _, _, _, _, _⟩) (v := ?_) rfl (by kernel_rfl) (by kernel_rfl) (by kernel_rfl) (fun _ _ _ h => h) (Or.inl ⟨by rfl, ?_⟩) SD96 ?_
  rotate_left
  · (intro W hW; (try dsimp only at hW); go_simp; try with_reducible rfl)
  try (conv in (Act.put _ _ _) => simp only [Act.put, List.setIfInBounds_toArray, List.set_cons_zero, List.set_cons_succ])
  refine takeH 22 (oi := ⟨some 44, _, _, _, _, _⟩) (v := ?_) rfl (by kernel_rfl) (by kernel_rfl) (by kernel_rfl) (fun _ _ _ h => h) (Or.inl ⟨by rfl, ?_⟩) SD96 ?_
  rotate_left
  · (intro W hW; (try dsimp only at hW); go_simp; try with_reducible rfl)
  try (conv in (Act.put _ _ _) => simp only [Act.put, List.setIfInBounds_toArray, List.set_cons_zero, List.set_cons_succ])
  refine takeH 23 (oi := ⟨some 45, _, _, _, _, _⟩) (v := ?_) rfl (by kernel_rfl) (by kernel_rfl) (by kernel_rfl) (fun _ _ _ h => h) (Or.inl ⟨by rfl, ?_⟩) SD96 ?_
  rotate_left
  · (intro W hW; (try dsimp only at hW); go_simp; try with_reducible rfl)
  try (conv in (Act.put _ _ _) => simp only [Act.put, List.setIfInBounds_toArray, List.set_cons_zero, List.set_cons_succ])
  refine takeH 24 (oi := ⟨some 21, _, _, _, _, _⟩) (v := ?_) rfl (by kernel_rfl) (by kernel_rfl) (by kernel_rfl) (fun _ _ _ h => h) (Or.inl ⟨by rfl, ?_⟩) SD96 ?_
  rotate_left
  · (intro W hW; (try dsimp only at hW); go_simp; try with_reducible rfl)
  try (conv in (Act.put _ _ _) => simp only [Act.put, List.setIfInBounds_toArray, List.set_cons_zero, List.set_cons_succ])
  refine wpAnyH_done (by kernel_rfl) ?_ _
  clear bxD0 bxD1 bxD2 mdD rsD
  have DZ := Lib.hid DD96.out
  generalize wD96 = wz at DZ ⊢
  have hbk := DZ.out.blk trivial
  have x0 := hbk.cell 0 _ rfl
  have x1c := hbk.cell 1 _ rfl
  have x2c := hbk.cell 2 _ rfl
  clear hbk
  go_wp2_with (go_at_call 124; (with_reducible refine (HAC.out _ DZ.out).mono ?_); rintro e w5 ⟨rfl, hb⟩; have HB5 := Lib.hid (DZ.out.bel.trans (hb.mono DZ.out.bel.size)); have HT5 := Lib.hid (DZ.out.two.below hb); clear hb; have a0 := HT5.out.h4.cell 0 _ rfl; have f0 := HT5.out.h4.frozen 0; have a1 := HT5.out.h4.cell 1 _ rfl; have f1 := HT5.out.h4.frozen 1; have a2 := HT5.out.h4.cell 2 _ rfl; have f2 := HT5.out.h4.frozen 2; have b0 := HT5.out.h5.cell 0 _ rfl; have g0 := HT5.out.h5.frozen 0; have b1 := HT5.out.h5.cell 1 _ rfl; have g1 := HT5.out.h5.frozen 1; have b2 := HT5.out.h5.cell 2 _ rfl; have g2 := HT5.out.h5.frozen 2)
  refine bodyPost_ret (results_val3 (x := ⟨r1, r2, r3⟩) (y := ⟨s1, s2, s3⟩) rfl _ rfl rfl rfl ((((((HT5.out.h4.setSame 0 _).setSame 1 _).setSame 2 _).setOther (Ne.symm hne45) _).setOther (Ne.symm hne45) _).setOther (Ne.symm hne45) _) ((((((HT5.out.h5.setOther hne45 _).setOther hne45 _).setOther hne45 _).setSame 0 _).setSame 1 _).setSame 2 _)) rfl ⟨rfl, ?_⟩
  exact (((((HB5.out.setCell HB45.out.1 _).setCell HB45.out.1 _).setCell HB45.out.1 _).setCell HB45.out.2 _).setCell HB45.out.2 _).setCell HB45.out.2 _
set_option maxHeartbeats 8000000 in
set_option maxRecDepth 20000 in
theorem tnext_e (x1 x2 : Int) (x3 : ByteArray) (h : TAt w X tb tp mp T s N) (ht : Tr w B tp D F T) (hx : x3.size ≤ maxLen) (hN : N ≤ 1000000) (hk : x1 = 2) (h2 : 1 ≤ x2) (hh : s.h = true) (hv : hasK s.R ⟨x1, x2, x3⟩ = true) : Calls Try.prog 73 #[.pointer (some ⟨tb, 0, none⟩), .agg #[.int .i64 x1, .int .i64 x2, .string x3]] w fun e w' => e = .returned (.tuple #[(nextM s.R ⟨x1, x2, x3⟩).1.1.v, (nextM s.R ⟨x1, x2, x3⟩).1.2.v, .int .i64 (nextM s.R ⟨x1, x2, x3⟩).2]) ∧ Below w.heap.size w w' := by
  have HB0 : Hid (Below w.heap.size w (((w.alloc (.cells #[.int .i64 x1, .int .i64 x2, .string x3] 57)).alloc (.cells #[.int .i64 0, .int .i64 0, .string ⟨#[]⟩] 57)).alloc (.cells #[.int .i64 0, .int .i64 0, .string ⟨#[]⟩] 57))) := Lib.hid (by (repeat (first | exact Below.refl _ _ | (refine Below.alloc ?_ (by simp <;> omega) _))))
  have D0 : Hid (TN w (((w.alloc (.cells #[.int .i64 x1, .int .i64 x2, .string x3] 57)).alloc (.cells #[.int .i64 0, .int .i64 0, .string ⟨#[]⟩] 57)).alloc (.cells #[.int .i64 0, .int .i64 0, .string ⟨#[]⟩] 57)) X B tb tp mp D F T s N w.heap.size ⟨x1, x2, x3⟩) := Lib.hid (by
    have h1 := Blk.new (w.alloc (.cells #[.int .i64 x1, .int .i64 x2, .string x3] 57)) [.int .i64 0, .int .i64 0, .string ⟨#[]⟩] 57
    have h2 := Blk.new ((w.alloc (.cells #[.int .i64 x1, .int .i64 x2, .string x3] 57)).alloc (.cells #[.int .i64 0, .int .i64 0, .string ⟨#[]⟩] 57)) [.int .i64 0, .int .i64 0, .string ⟨#[]⟩] 57
    exact ⟨h.below HB0.out, ht.below HB0.out, HB0.out, ⟨by simpa using h1.alloc _, by simpa using h2⟩, ((Blk.new w [.int .i64 x1, .int .i64 x2, .string x3] 57).alloc _).alloc _⟩)
  have HB45 : Hid (w.heap.size ≤ w.heap.size + 1 ∧ w.heap.size ≤ w.heap.size + 1 + 1) := Lib.hid (by omega)
  have HT0 := Lib.hid h
  obtain ⟨⟨⟨⟨r1, r2, r3⟩, ⟨s1, s2, s3⟩⟩, ne⟩, hR⟩ : ∃ R', nextM s.R ⟨x1, x2, x3⟩ = R' := ⟨_, rfl⟩
  rw [hR]
  have HAB := Lib.hid (fun (xb : Nat) (W : World) (hW : TN w W X B tb tp mp D F T s N xb ⟨x1, x2, x3⟩) => tnextO_calls hW.1 hW.2.1 ⟨x1, x2, x3⟩ hx)
  rw [hR] at HAB
  have HMD := Lib.hid (fun (xb : Nat) (W : World) (hW : TN w W X B tb tp mp D F T s N xb ⟨x1, x2, x3⟩) => hW.mode)
  rw [hh] at HMD
  have HMD : Hid (∀ (xb : Nat) (W : World), TN w W X B tb tp mp D F T s N xb ⟨x1, x2, x3⟩ → W.cell? ⟨tb, 2, none⟩ = some (.int .i64 2)) := HMD
  obtain ⟨_, ⟨hq, _⟩ | ⟨_, _, av, d, Y, hha⟩⟩ := HT0.out
  · rw [hh] at hq; cases hq
  have HCL := Lib.hid (fun (W : World) (hW : Below w.heap.size w W) => (hha.below hW).hd.cell 5 _ rfl)
  have HHS := Lib.hid (fun (W : World) (hW : Below w.heap.size w W) => dhas_calls (hha.dict.below hW) ⟨x1, x2, x3⟩ hx)
  rw [hv] at HHS
  subst hk
  have k2 : decide (1 ≤ x2) = true := decide_eq_true (by omega)
  clear h ht hx hR hha hv
  go_enter Try.func73, Try.ntmps73
  go_upto_region 1 with fail
  obtain ⟨xb, hxb⟩ : ∃ z, z = w.heap.size := ⟨_, rfl⟩
  obtain ⟨w1, hw1⟩ : ∃ z, z = (((w.alloc (.cells #[.int .i64 2, .int .i64 x2, .string x3] 57)).alloc (.cells #[.int .i64 0, .int .i64 0, .string ⟨#[]⟩] 57)).alloc (.cells #[.int .i64 0, .int .i64 0, .string ⟨#[]⟩] 57)) := ⟨_, rfl⟩
  have hne45 : xb + 1 + 1 ≠ xb + 1 := by omega
  rw [← hw1] at D0 HB0 ⊢
  rw [← hxb] at D0 ⊢
  have HB45 : Hid (w.heap.size ≤ xb + 1 ∧ w.heap.size ≤ xb + 1 + 1) := Lib.hid (by omega)
  clear hw1 hxb
  have HAC := Lib.hid (HAB.out xb)
  have hbk := D0.out.blk trivial
  have x0 := hbk.cell 0 _ rfl
  clear hbk
  go_upto_region 5 with fail
  clear x0
  have BLE : Below w1.heap.size w1 ({ w1 with drawn := w1.drawn + 1 } : World) := ⟨rfl, rfl, rfl, Nat.le_refl _, fun _ _ => rfl⟩
  have DE := Lib.hid (D0.out.below BLE)
  refine wp_region_held (S := fun W : World => Blk W (xb) 57 [.int .i64 2, .int .i64 x2, .string x3] ∧ (W.cell? ⟨tb, 2, none⟩ = some (.int .i64 2)) ∧ (W.cell? ⟨tb, 5, none⟩ = some (.pointer (some ⟨d, 0, none⟩))) ∧ True) (by kernel_rfl) ?_
  generalize ({ w1 with drawn := w1.drawn + 1 } : World) = wE at BLE DE ⊢
  have hSE : (fun W : World => Blk W (xb) 57 [.int .i64 2, .int .i64 x2, .string x3] ∧ (W.cell? ⟨tb, 2, none⟩ = some (.int .i64 2)) ∧ (W.cell? ⟨tb, 5, none⟩ = some (.pointer (some ⟨d, 0, none⟩))) ∧ True) wE := ⟨DE.out.blk trivial, (HMD.out xb _ DE.out), (HCL.out _ DE.out.bel), trivial⟩
  have bxE0 : ∀ W : World, (Blk W (xb) 57 [.int .i64 2, .int .i64 x2, .string x3] ∧ (W.cell? ⟨tb, 2, none⟩ = some (.int .i64 2)) ∧ (W.cell? ⟨tb, 5, none⟩ = some (.pointer (some ⟨d, 0, none⟩))) ∧ True) → W.cell? ⟨xb, 0, none⟩ = some (.int .i64 2) := fun W hW => hW.1.cell 0 _ rfl
  have bxE1 : ∀ W : World, (Blk W (xb) 57 [.int .i64 2, .int .i64 x2, .string x3] ∧ (W.cell? ⟨tb, 2, none⟩ = some (.int .i64 2)) ∧ (W.cell? ⟨tb, 5, none⟩ = some (.pointer (some ⟨d, 0, none⟩))) ∧ True) → W.cell? ⟨xb, 1, none⟩ = some (.int .i64 x2) := fun W hW => hW.1.cell 1 _ rfl
  have bxE2 : ∀ W : World, (Blk W (xb) 57 [.int .i64 2, .int .i64 x2, .string x3] ∧ (W.cell? ⟨tb, 2, none⟩ = some (.int .i64 2)) ∧ (W.cell? ⟨tb, 5, none⟩ = some (.pointer (some ⟨d, 0, none⟩))) ∧ True) → W.cell? ⟨xb, 2, none⟩ = some (.string x3) := fun W hW => hW.1.cell 2 _ rfl
  have mdE : ∀ W : World, (Blk W (xb) 57 [.int .i64 2, .int .i64 x2, .string x3] ∧ (W.cell? ⟨tb, 2, none⟩ = some (.int .i64 2)) ∧ (W.cell? ⟨tb, 5, none⟩ = some (.pointer (some ⟨d, 0, none⟩))) ∧ True) → W.cell? ⟨tb, 2, none⟩ = some (.int .i64 2) := fun W hW => hW.2.1
  have rsE : ∀ W : World, (Blk W (xb) 57 [.int .i64 2, .int .i64 x2, .string x3] ∧ (W.cell? ⟨tb, 2, none⟩ = some (.int .i64 2)) ∧ (W.cell? ⟨tb, 5, none⟩ = some (.pointer (some ⟨d, 0, none⟩))) ∧ True) → W.cell? ⟨tb, 5, none⟩ = some (.pointer (some ⟨d, 0, none⟩)) := fun W hW => hW.2.2.1
  refine takeH 0 (oi := ⟨some 22, _, _, _, _, _⟩) (v := ?_) rfl (by kernel_rfl) (by kernel_rfl) (by kernel_rfl) (fun _ _ _ h => h) (Or.inl ⟨by rfl, ?_⟩) hSE ?_
  rotate_left
  · (intro W hW; (try dsimp only at hW); go_simp; try with_reducible rfl)
  try (conv in (Act.put _ _ _) => simp only [Act.put, List.setIfInBounds_toArray, List.set_cons_zero, List.set_cons_succ])
  refine takeH 1 (oi := ⟨some 23, _, _, _, _, _⟩) (v := ?_) rfl (by kernel_rfl) (by kernel_rfl) (by kernel_rfl) (fun _ _ _ h => h) (Or.inl ⟨by rfl, ?_⟩) hSE ?_
  rotate_left
  · (intro W hW; (try dsimp only at hW); go_simp; try with_reducible rfl)
  try (conv in (Act.put _ _ _) => simp only [Act.put, List.setIfInBounds_toArray, List.set_cons_zero, List.set_cons_succ])
  refine takeH 2 (oi := ⟨some 24, _, _, _, _, _⟩) (v := ?_) rfl (by kernel_rfl) (by kernel_rfl) (by kernel_rfl) (fun _ _ _ h => h) (Or.inl ⟨by rfl, ?_⟩) hSE ?_
  rotate_left
  · (intro W hW; (try dsimp only at hW); go_simp; try with_reducible rfl)
  try (conv in (Act.put _ _ _) => simp only [Act.put, List.setIfInBounds_toArray, List.set_cons_zero, List.set_cons_succ])
  refine takeH 3 (oi := ⟨some 25, _, _, _, _, _⟩) (v := ?_) rfl (by kernel_rfl) (by kernel_rfl) (by kernel_rfl) (fun _ _ _ h => h) (Or.inl ⟨by rfl, ?_⟩) hSE ?_
  rotate_left
  · (intro W hW; (try dsimp only at hW); go_simp; try with_reducible rfl)
  try (conv in (Act.put _ _ _) => simp only [Act.put, List.setIfInBounds_toArray, List.set_cons_zero, List.set_cons_succ])
  refine takeH 4 (oi := ⟨some 26, _, _, _, _, _⟩) (v := ?_) rfl (by kernel_rfl) (by kernel_rfl) (by kernel_rfl) (fun _ _ _ h => h) (Or.inl ⟨by rfl, ?_⟩) hSE ?_
  rotate_left
  · (intro W hW; (try dsimp only at hW); go_simp; try with_reducible rfl)
  try (conv in (Act.put _ _ _) => simp only [Act.put, List.setIfInBounds_toArray, List.set_cons_zero, List.set_cons_succ])
  refine takeH 5 (oi := ⟨some 27, _, _, _, _, _⟩) (v := ?_) rfl (by kernel_rfl) (by kernel_rfl) (by kernel_rfl) (fun _ _ _ h => h) (Or.inl ⟨by rfl, ?_⟩) hSE ?_
  rotate_left
  · (intro W hW; (try dsimp only at hW); go_simp; try with_reducible rfl)
  try (conv in (Act.put _ _ _) => simp only [Act.put, List.setIfInBounds_toArray, List.set_cons_zero, List.set_cons_succ])
  refine takeH 6 (oi := ⟨some 28, _, _, _, _, _⟩) (v := ?_) rfl (by kernel_rfl) (by kernel_rfl) (by kernel_rfl) (fun _ _ _ h => h) (Or.inl ⟨by rfl, ?_⟩) hSE ?_
  rotate_left
  · (intro W hW; (try dsimp only at hW); go_simp; try with_reducible rfl)
  try (conv in (Act.put _ _ _) => simp only [Act.put, List.setIfInBounds_toArray, List.set_cons_zero, List.set_cons_succ])
  refine takeH 7 (oi := ⟨some 29, _, _, _, _, _⟩) (v := ?_) rfl (by kernel_rfl) (by kernel_rfl) (by kernel_rfl) (fun _ _ _ h => h) (Or.inl ⟨by rfl, ?_⟩) hSE ?_
  rotate_left
  · (intro W hW; (try dsimp only at hW); go_simp; try with_reducible rfl)
  try (conv in (Act.put _ _ _) => simp only [Act.put, List.setIfInBounds_toArray, List.set_cons_zero, List.set_cons_succ])
  refine takeH 8 (oi := ⟨some 30, _, _, _, _, _⟩) (v := ?_) rfl (by kernel_rfl) (by kernel_rfl) (by kernel_rfl) (fun _ _ _ h => h) (Or.inl ⟨by rfl, ?_⟩) hSE ?_
  rotate_left
  · (intro W hW; (try dsimp only at hW); go_simp; try with_reducible rfl)
  try (conv in (Act.put _ _ _) => simp only [Act.put, List.setIfInBounds_toArray, List.set_cons_zero, List.set_cons_succ])
  refine takeH 9 (oi := ⟨some 31, _, _, _, _, _⟩) (v := ?_) rfl (by kernel_rfl) (by kernel_rfl) (by kernel_rfl) (fun _ _ _ h => h) (Or.inl ⟨by rfl, ?_⟩) hSE ?_
  rotate_left
  · (intro W hW; (try dsimp only at hW); go_simp; try with_reducible rfl)
  try (conv in (Act.put _ _ _) => simp only [Act.put, List.setIfInBounds_toArray, List.set_cons_zero, List.set_cons_succ])
  refine takeH 10 (oi := ⟨some 32, _, _, _, _, _⟩) (v := ?_) rfl (by kernel_rfl) (by kernel_rfl) (by kernel_rfl) (fun _ _ _ h => h) (Or.inl ⟨by rfl, ?_⟩) hSE ?_
  rotate_left
  · (intro W hW; (try dsimp only at hW); go_simp; try with_reducible rfl)
  try (conv in (Act.put _ _ _) => simp only [Act.put, List.setIfInBounds_toArray, List.set_cons_zero, List.set_cons_succ])
  refine takeH 11 (oi := ⟨some 33, _, _, _, _, _⟩) (v := ?_) rfl (by kernel_rfl) (by kernel_rfl) (by kernel_rfl) (fun _ _ _ h => h) (Or.inl ⟨by rfl, ?_⟩) hSE ?_
  rotate_left
  · (intro W hW; (try dsimp only at hW); go_simp; try with_reducible rfl)
  try (conv in (Act.put _ _ _) => simp only [Act.put, List.setIfInBounds_toArray, List.set_cons_zero, List.set_cons_succ])
  refine takeH 12 (oi := ⟨some 34, _, _, _, _, _⟩) (v := ?_) rfl (by kernel_rfl) (by kernel_rfl) (by kernel_rfl) (fun _ _ _ h => h) (Or.inl ⟨by rfl, ?_⟩) hSE ?_
  rotate_left
  · (intro W hW; (try dsimp only at hW); go_simp; try with_reducible rfl)
  try (conv in (Act.put _ _ _) => simp only [Act.put, List.setIfInBounds_toArray, List.set_cons_zero, List.set_cons_succ])
  refine takeH 13 (oi := ⟨some 35, _, _, _, _, _⟩) (v := ?_) rfl (by kernel_rfl) (by kernel_rfl) (by kernel_rfl) (fun _ _ _ h => h) (Or.inl ⟨by rfl, ?_⟩) hSE ?_
  rotate_left
  · (intro W hW; (try dsimp only at hW); go_simp; try with_reducible rfl)
  try (conv in (Act.put _ _ _) => simp only [Act.put, List.setIfInBounds_toArray, List.set_cons_zero, List.set_cons_succ])
  refine takeH 14 (oi := ⟨some 36, _, _, _, _, _⟩) (v := ?_) rfl (by kernel_rfl) (by kernel_rfl) (by kernel_rfl) (fun _ _ _ h => h) (Or.inl ⟨by rfl, ?_⟩) hSE ?_
  rotate_left
  · (intro W hW; (try dsimp only at hW); go_simp; try with_reducible rfl)
  try (conv in (Act.put _ _ _) => simp only [Act.put, List.setIfInBounds_toArray, List.set_cons_zero, List.set_cons_succ])
  refine takeH 15 (oi := ⟨some 37, _, _, _, _, _⟩) (v := ?_) rfl (by kernel_rfl) (by kernel_rfl) (by kernel_rfl) (fun _ _ _ h => h) (Or.inl ⟨by rfl, ?_⟩) hSE ?_
  rotate_left
  · (intro W hW; (try dsimp only at hW); go_simp; try with_reducible rfl)
  try (conv in (Act.put _ _ _) => simp only [Act.put, List.setIfInBounds_toArray, List.set_cons_zero, List.set_cons_succ])
  refine takeH 16 (oi := ⟨some 38, _, _, _, _, _⟩) (v := ?_) rfl (by kernel_rfl) (by kernel_rfl) (by kernel_rfl) (fun _ _ _ h => h) (Or.inl ⟨by rfl, ?_⟩) hSE ?_
  rotate_left
  · (intro W hW; (try dsimp only at hW); go_simp; try with_reducible rfl)
  try (conv in (Act.put _ _ _) => simp only [Act.put, List.setIfInBounds_toArray, List.set_cons_zero, List.set_cons_succ])
  refine takeH 17 (oi := ⟨some 39, _, _, _, _, _⟩) (v := ?_) rfl (by kernel_rfl) (by kernel_rfl) (by kernel_rfl) (fun _ _ _ h => h) (Or.inl ⟨by rfl, ?_⟩) hSE ?_
  rotate_left
  · (intro W hW; (try dsimp only at hW); go_simp; try with_reducible rfl)
  try (conv in (Act.put _ _ _) => simp only [Act.put, List.setIfInBounds_toArray, List.set_cons_zero, List.set_cons_succ])
  refine takeH 18 (oi := ⟨some 40, _, _, _, _, _⟩) (v := ?_) rfl (by kernel_rfl) (by kernel_rfl) (by kernel_rfl) (fun _ _ _ h => h) (Or.inl ⟨by rfl, ?_⟩) hSE ?_
  rotate_left
  · (intro W hW; (try dsimp only at hW); go_simp; try with_reducible rfl)
  try (conv in (Act.put _ _ _) => simp only [Act.put, List.setIfInBounds_toArray, List.set_cons_zero, List.set_cons_succ])
  refine takeH 19 (oi := ⟨some 41, _, _, _, _, _⟩) (v := ?_) rfl (by kernel_rfl) (by kernel_rfl) (by kernel_rfl) (fun _ _ _ h => h) (Or.inl ⟨by rfl, ?_⟩) hSE ?_
  rotate_left
  · (intro W hW; (try dsimp only at hW); go_simp; try with_reducible rfl)
  try (conv in (Act.put _ _ _) => simp only [Act.put, List.setIfInBounds_toArray, List.set_cons_zero, List.set_cons_succ])
  refine one (i := 20) (by kernel_rfl) ?_
  refine wpOp_wanted rfl (by rfl) fun K hK => ?_
  go_simp
  with_reducible refine (HHS.out _ DE.out.bel).mono ?_
  rintro e wE121 ⟨rfl, hb⟩
  have DE121 := Lib.hid (DE.out.below hb)
  clear hb
  have SE121 : (fun W : World => Blk W (xb) 57 [.int .i64 2, .int .i64 x2, .string x3] ∧ (W.cell? ⟨tb, 2, none⟩ = some (.int .i64 2)) ∧ (W.cell? ⟨tb, 5, none⟩ = some (.pointer (some ⟨d, 0, none⟩))) ∧ True) wE121 := ⟨DE121.out.blk trivial, (HMD.out xb _ DE121.out), (HCL.out _ DE121.out.bel), trivial⟩
  refine hK _ _ ⟨SE121, ?_⟩
  clear hK K
  try (conv in (Act.put _ _ _) => simp only [Act.put, List.setIfInBounds_toArray, List.set_cons_zero, List.set_cons_succ])
  refine takeH 21 (oi := ⟨some 43, _, _, _, _, _⟩) (v := ?_) rfl (by kernel_rfl) (by kernel_rfl) (by kernel_rfl) (fun _ _ _ h => h) (Or.inl ⟨by rfl, ?_⟩) SE121 ?_
  rotate_left
  · (intro W hW; (try dsimp only at hW); go_simp; try with_reducible rfl)
  try (conv in (Act.put _ _ _) => simp only [Act.put, List.setIfInBounds_toArray, List.set_cons_zero, List.set_cons_succ])
  refine takeH 22 (oi := ⟨some 44, _, _, _, _, _⟩) (v := ?_) rfl (by kernel_rfl) (by kernel_rfl) (by kernel_rfl) (fun _ _ _ h => h) (Or.inl ⟨by rfl, ?_⟩) SE121 ?_
  rotate_left
  · (intro W hW; (try dsimp only at hW); go_simp; try with_reducible rfl)
  try (conv in (Act.put _ _ _) => simp only [Act.put, List.setIfInBounds_toArray, List.set_cons_zero, List.set_cons_succ])
  refine takeH 23 (oi := ⟨some 45, _, _, _, _, _⟩) (v := ?_) rfl (by kernel_rfl) (by kernel_rfl) (by kernel_rfl) (fun _ _ _ h => h) (Or.inl ⟨by rfl, ?_⟩) SE121 ?_
  rotate_left
  · (intro W hW; (try dsimp only at hW); go_simp; try with_reducible rfl)
  try (conv in (Act.put _ _ _) => simp only [Act.put, List.setIfInBounds_toArray, List.set_cons_zero, List.set_cons_succ])
  refine takeH 24 (oi := ⟨some 21, _, _, _, _, _⟩) (v := ?_) rfl (by kernel_rfl) (by kernel_rfl) (by kernel_rfl) (fun _ _ _ h => h) (Or.inl ⟨by rfl, ?_⟩) SE121 ?_
  rotate_left
  · (intro W hW; (try dsimp only at hW); go_simp; try with_reducible rfl)
  try (conv in (Act.put _ _ _) => simp only [Act.put, List.setIfInBounds_toArray, List.set_cons_zero, List.set_cons_succ])
  refine wpAnyH_done (by kernel_rfl) ?_ _
  clear bxE0 bxE1 bxE2 mdE rsE
  have DZ := Lib.hid DE121.out
  generalize wE121 = wz at DZ ⊢
  have hbk := DZ.out.blk trivial
  have x0 := hbk.cell 0 _ rfl
  have x1c := hbk.cell 1 _ rfl
  have x2c := hbk.cell 2 _ rfl
  clear hbk
  go_wp2_with (go_at_call 125; (with_reducible refine (HAC.out _ DZ.out).mono ?_); rintro e w5 ⟨rfl, hb⟩; have HB5 := Lib.hid (DZ.out.bel.trans (hb.mono DZ.out.bel.size)); have HT5 := Lib.hid (DZ.out.two.below hb); clear hb; have a0 := HT5.out.h4.cell 0 _ rfl; have f0 := HT5.out.h4.frozen 0; have a1 := HT5.out.h4.cell 1 _ rfl; have f1 := HT5.out.h4.frozen 1; have a2 := HT5.out.h4.cell 2 _ rfl; have f2 := HT5.out.h4.frozen 2; have b0 := HT5.out.h5.cell 0 _ rfl; have g0 := HT5.out.h5.frozen 0; have b1 := HT5.out.h5.cell 1 _ rfl; have g1 := HT5.out.h5.frozen 1; have b2 := HT5.out.h5.cell 2 _ rfl; have g2 := HT5.out.h5.frozen 2)
  refine bodyPost_ret (results_val3 (x := ⟨r1, r2, r3⟩) (y := ⟨s1, s2, s3⟩) rfl _ rfl rfl rfl ((((((HT5.out.h4.setSame 0 _).setSame 1 _).setSame 2 _).setOther (Ne.symm hne45) _).setOther (Ne.symm hne45) _).setOther (Ne.symm hne45) _) ((((((HT5.out.h5.setOther hne45 _).setOther hne45 _).setOther hne45 _).setSame 0 _).setSame 1 _).setSame 2 _)) rfl ⟨rfl, ?_⟩
  exact (((((HB5.out.setCell HB45.out.1 _).setCell HB45.out.1 _).setCell HB45.out.1 _).setCell HB45.out.2 _).setCell HB45.out.2 _).setCell HB45.out.2 _
theorem tnext_calls (h : TAt w X tb tp mp T s N) (ht : Tr w B tp D F T) (x : Val) (hx : x.s.size ≤ maxLen) (hN : N ≤ 1000000) : Calls Try.prog 73 #[.pointer (some ⟨tb, 0, none⟩), x.v] w fun e w' => e = .returned (.tuple #[(tnextM s x).1.1.v, (tnextM s x).1.2.v, .int .i64 (tnextM s x).2]) ∧ Below w.heap.size w w' := by
  obtain ⟨x1, x2, x3⟩ := x
  by_cases h0 : x1 = 0
  · rw [tnextM_nil s _ h0]; exact tnext_nil x1 x2 x3 h ht hx hN h0
  by_cases h2 : x1 = 2
  · by_cases h1 : 1 ≤ x2
    · cases hh : s.h with
      | false =>
        have hno : hasK s.R ⟨x1, x2, x3⟩ = false := by
          obtain ⟨_, ⟨_, S, av, sv, h5, h6⟩ | ⟨h5, _⟩⟩ := h
          · rw [h6]; exact hasK_other (by show x1 ≠ 3; omega)
          · rw [hh] at h5; cases h5
        rw [tnextM_above s _ h2 h1 hno]; exact tnext_c x1 x2 x3 h ht hx hN h2 h1 hh
      | true =>
        cases hv : hasK s.R ⟨x1, x2, x3⟩ with
        | false => rw [tnextM_above s _ h2 h1 hv]; exact tnext_d x1 x2 x3 h ht hx hN h2 h1 hh hv
        | true => rw [tnextM_other s _ h0 (fun q => by rw [hv] at q; cases q.2.2)]; exact tnext_e x1 x2 x3 h ht hx hN h2 h1 hh hv
    · rw [tnextM_other s _ h0 (fun q => h1 q.2.1)]; exact tnext_b x1 x2 x3 h ht hx hN h2 (by omega)
  · rw [tnextM_other s _ h0 (fun q => h2 q.1)]; exact tnext_a x1 x2 x3 h ht hx hN h0 h2
end
end Go.Proofs.Ytmjfmfelbmbniaa
