/- Layer 15: the law's alive. -/
import Derived.Test.YtmjfmfelbmbniaaMeB
namespace Go.Proofs.Ytmjfmfelbmbniaa
open Go.RowKit Go.Maps HK ShM
set_option linter.unusedVariables false
set_option linter.unusedSimpArgs false
open RH
theorem metaNames_size : ∀ s ∈ metaNames, s.size ≤ maxLen := by
  intro s hs
  have h : ∀ s ∈ metaNames, s.size ≤ 20 := by decide +kernel
  exact Nat.le_trans (h s hs) (by decide)
abbrev adB : ByteArray := ⟨#[95, 95, 97, 100, 100]⟩
abbrev suB : ByteArray := ⟨#[95, 95, 115, 117, 98]⟩
def mT1 : List Sh := (addM 8 8 T0 0 adB).T
def mT2 : List Sh := (addM 8 8 mT1 1 suB).T
def ml1 : Tab := ⟨[], [(strV adB, intV 7)], false, 1⟩
def ml2 : Tab := ⟨[], [(strV adB, intV 7), (strV suB, intV 1)], false, 2⟩
theorem ml_1 : tsetM 8 8 T0 al0 (strV adB) (intV 7) = ⟨1, 0, ml1, mT1⟩ := by rfl
theorem ml_2 : tsetM 8 8 mT1 ml1 (strV suB) (intV 1) = ⟨1, 0, ml2, mT2⟩ := by rfl
theorem mf_1 : findV (some ml1) adB = intV 7 := by rfl
theorem mf_2 : findV (some ml1) suB = Val.nil := by rfl
theorem mf_3 : findV (some ml2) suB = intV 1 := by rfl
set_option maxHeartbeats 16000000 in
set_option maxRecDepth 20000 in
theorem malive_calls (w : World) : Calls Try.prog 69 #[] w fun e w' => e = .returned (.bool true) ∧ Below w.heap.size w w' := by
  have HI := Lib.hid (fun (n : Int) (W : World) => ofInt_calls n W)
  have HS := Lib.hid (fun (s : ByteArray) (W : World) => ofStr_calls s W)
  have HNM := Lib.hid (fun (W : World) => mnames_calls W)
  have HNT := Lib.hid (fun (W : World) (v : Value) (hv : Strs W v metaNames) (h : Below w.heap.size w W) => show Calls Try.prog 61 #[.int .i64 8, .int .i64 8, v] W fun e w' => ∃ sb, e = .returned (.pointer (some ⟨sb, 0, none⟩)) ∧ TL w w' (fun _ => False) (some ⟨sb, 0, none⟩) 8 8 T0 0 [] [] ∧ Below W.heap.size W w' from TL.newTree 8 8 v metaNames w W h (RdS.of_row hv) metaNames_size (fun b hb => hb.elim))
  go_enter Try.func69, Try.ntmps69
  go_upto_region 4 with (first
    | (go_at_call 70; (with_reducible refine (HNM.out _).mono ?_); rintro e w1 ⟨v, rfl, ⟨hv, _, hb⟩, rfl⟩; have HNN := Lib.hid (HNT.out w1 _ hv hb); clear hv hb)
    | (go_at_call 61; (with_reducible refine HNN.out.mono ?_); rintro e w2 ⟨sb, rfl, h1, _⟩; have D2 := Lib.hid h1; clear h1; have HBK := Lib.hid D2.out.book)
    | (go_at_call 75; (with_reducible refine HBK.out.mono ?_); rintro e w3 ⟨bb, rfl, h1, hbb⟩; have D3 := Lib.hid h1; have HBB := Lib.hid (Nat.le_trans D2.out.bel.size hbb); clear h1 hbb; have HT1 := Lib.hid (D3.out.new rfl))
    | (go_at_call 62; (with_reducible refine HT1.out.mono ?_); rintro e w4 ⟨tb, rfl, h1, _⟩; have D4 := Lib.hid h1; clear h1 HT1; have HT2 := Lib.hid (D4.out.new rfl))
    | (go_at_call 62; (with_reducible refine HT2.out.mono ?_); rintro e w5 ⟨ub, rfl, h1, _⟩; have D5 := Lib.hid h1; clear h1 HT2))
  have D5 : Hid (TL w w5 (fun _ => False) (some ⟨sb, 0, none⟩) 8 8 T0 0 [(tb, .pointer none, al0), (ub, .pointer none, al0)] [(bb, 207, [.pointer (some ⟨sb, 0, none⟩), .int .u64 0])]) := D5
  have RF := Lib.hid (fun (s : Tab) => show TabRef [(tb, .pointer (some ⟨ub, 0, none⟩), al0), (ub, .pointer none, s)] (.pointer (some ⟨tb, 0, none⟩)) (some s) from .inr ⟨0, tb, .pointer (some ⟨ub, 0, none⟩), al0, rfl, rfl, .inr ⟨1, ub, .pointer none, s, rfl, rfl, rfl⟩⟩)
  clear D4 D3 D2 HNN HBK HNT
  go_upto_region 8 with (first
    | (go_at_call 54; (with_reducible refine (HS.out _ _).mono ?_); rintro e w6 ⟨rfl, hb⟩; have D6 := Lib.hid (D5.out.below hb); clear hb)
    | (go_at_call 50; (with_reducible refine (HI.out _ _).mono ?_); rintro e w7 ⟨rfl, hb⟩; have D7 := Lib.hid (D6.out.below hb); clear hb; have HST := Lib.hid (D7.out.setTo (i := 1) rfl (strV adB) (intV 7) (by decide) (by omega) ml_1 rfl))
    | (go_at_call 63; (with_reducible refine HST.out.mono ?_); rintro e w8 ⟨rfl, hh⟩; have D8 := Lib.hid hh; clear hh HST; have HLK := Lib.hid (D8.out.link (i := 0) rfl (some ⟨ub, 0, none⟩) HBB.out (fun c hc => by cases hc) (by decide)))
    | (go_at_call 77; (with_reducible refine HLK.out.mono ?_); rintro e w9 ⟨rfl, hh⟩; have D9 := Lib.hid hh; clear hh HLK))
  have D9 : Hid (TL w w9 (fun _ => False) (some ⟨sb, 0, none⟩) 8 8 mT1 1 [(tb, .pointer (some ⟨ub, 0, none⟩), al0), (ub, .pointer none, ml1)] [(bb, 207, [.pointer (some ⟨sb, 0, none⟩), .int .u64 1])]) := D9
  have HF1 := Lib.hid (D9.out.find (RF.out ml1) (.inr ⟨bb, 1, rfl, List.mem_cons_self⟩) adB (by decide) (by omega))
  rw [mf_1] at HF1
  have HF2 := Lib.hid (fun (W : World) (hW : TL w W (fun _ => False) (some ⟨sb, 0, none⟩) 8 8 mT1 1 [(tb, .pointer (some ⟨ub, 0, none⟩), al0), (ub, .pointer none, ml1)] [(bb, 207, [.pointer (some ⟨sb, 0, none⟩), .int .u64 1])]) => hW.find (RF.out ml1) (.inr ⟨bb, 1, rfl, List.mem_cons_self⟩) suB (by decide) (by omega))
  rw [mf_2] at HF2
  clear D8 D7 D6 D5
  go_upto_region 9 with (first
    | (go_at_call 80; (with_reducible refine HF1.out.mono ?_); rintro e w10 ⟨rfl, hb⟩; have D10 := Lib.hid (D9.out.below hb); clear hb HF1; have HFF := Lib.hid (HF2.out _ D10.out))
    | (go_at_call 80; (with_reducible refine HFF.out.mono ?_); rintro e w11 ⟨rfl, hb⟩; have D11 := Lib.hid (((D10.out.below hb).alloc [.int .i64 2, .int .i64 7, .string Val.e] 57).alloc [.int .i64 0, .int .i64 0, .string Val.e] 57); clear hb HFF))
  obtain ⟨x1, hx1⟩ : ∃ b, b = w11.heap.size := ⟨_, rfl⟩
  obtain ⟨x2, hx2⟩ : ∃ b, b = (w11.alloc (.cells #[.int .i64 2, .int .i64 7, .string Val.e] 57)).heap.size := ⟨_, rfl⟩
  have D11 : Hid (TL w ((w11.alloc (.cells #[.int .i64 2, .int .i64 7, .string Val.e] 57)).alloc (.cells #[.int .i64 0, .int .i64 0, .string Val.e] 57)) (fun _ => False) (some ⟨sb, 0, none⟩) 8 8 mT1 1 [(tb, .pointer (some ⟨ub, 0, none⟩), al0), (ub, .pointer none, ml1)] [(x2, 57, [.int .i64 0, .int .i64 0, .string Val.e]), (x1, 57, [.int .i64 2, .int .i64 7, .string Val.e]), (bb, 207, [.pointer (some ⟨sb, 0, none⟩), .int .u64 1])]) := Lib.hid (by rw [hx1, hx2]; exact D11.out)
  have hx2' : x2 = w11.heap.size + 1 := by rw [hx2]; simp
  rw [← hx2', ← hx1]
  obtain ⟨w12, hw12⟩ : ∃ w12, w12 = (w11.alloc (.cells #[.int .i64 2, .int .i64 7, .string Val.e] 57)).alloc (.cells #[.int .i64 0, .int .i64 0, .string Val.e] 57) := ⟨_, rfl⟩
  rw [← hw12] at D11 ⊢
  clear hw12 hx1 hx2 hx2' D10 D9
  go_upto_region 10 with (first
    | (go_at_call 54; (with_reducible refine (HS.out _ _).mono ?_); rintro e w13 ⟨rfl, hb⟩; have D13 := Lib.hid (D11.out.below hb); clear hb)
    | (go_at_call 50; (with_reducible refine (HI.out _ _).mono ?_); rintro e w14 ⟨rfl, hb⟩; have D14 := Lib.hid (D13.out.below hb); clear hb; have HST := Lib.hid (D14.out.setTo (i := 1) rfl (strV suB) (intV 1) (by decide) (by omega) ml_2 rfl))
    | (go_at_call 63; (with_reducible refine HST.out.mono ?_); rintro e w15 ⟨rfl, hh⟩; have D15 := Lib.hid hh; clear hh HST))
  have D15 : Hid (TL w w15 (fun _ => False) (some ⟨sb, 0, none⟩) 8 8 mT2 2 [(tb, .pointer (some ⟨ub, 0, none⟩), al0), (ub, .pointer none, ml2)] [(x2, 57, [.int .i64 0, .int .i64 0, .string Val.e]), (x1, 57, [.int .i64 2, .int .i64 7, .string Val.e]), (bb, 207, [.pointer (some ⟨sb, 0, none⟩), .int .u64 1])]) := D15
  have HF3 := Lib.hid (fun (W : World) (hW : TL w W (fun _ => False) (some ⟨sb, 0, none⟩) 8 8 mT2 2 [(tb, .pointer (some ⟨ub, 0, none⟩), al0), (ub, .pointer none, ml2)] [(x2, 57, [.int .i64 0, .int .i64 0, .string Val.e]), (x1, 57, [.int .i64 2, .int .i64 7, .string Val.e]), (bb, 207, [.pointer (some ⟨sb, 0, none⟩), .int .u64 1])]) => hW.find (RF.out ml2) (.inr ⟨bb, 1, rfl, by simp⟩) suB (by decide) (by omega))
  rw [mf_3] at HF3
  have HEP := Lib.hid (fun (W : World) (hW : TL w W (fun _ => False) (some ⟨sb, 0, none⟩) 8 8 mT2 2 [(tb, .pointer (some ⟨ub, 0, none⟩), al0), (ub, .pointer none, ml2)] [(x2, 57, [.int .i64 0, .int .i64 0, .string Val.e]), (x1, 57, [.int .i64 2, .int .i64 7, .string Val.e]), (bb, 207, [.pointer (some ⟨sb, 0, none⟩), .int .u64 1])]) => show Calls Try.prog 83 #[.pointer (some ⟨bb, 0, none⟩)] W fun e w' => e = .returned (.int .u64 1) ∧ Below W.heap.size W w' from (hW.epoch (bb := bb) (ep := 1) (by simp)).mono (fun e w' h => ⟨h.1, by rw [← h.2]; exact Below.refl _ _⟩))
  have BLp : Below w15.heap.size w15 ({ w15 with drawn := w15.drawn + 1 } : World) := ⟨rfl, rfl, rfl, Nat.le_refl _, fun _ _ => rfl⟩
  have Dp := Lib.hid (D15.out.below BLp)
  refine wp_region_held (S := fun W => Blk W (x2) 57 [.int .i64 0, .int .i64 0, .string Val.e] ∧ Blk W (x1) 57 [.int .i64 2, .int .i64 7, .string Val.e] ∧ True) (by kernel_rfl) ?_
  generalize ({ w15 with drawn := w15.drawn + 1 } : World) = wp at BLp Dp ⊢
  have hSp : (fun W : World => Blk W (x2) 57 [.int .i64 0, .int .i64 0, .string Val.e] ∧ Blk W (x1) 57 [.int .i64 2, .int .i64 7, .string Val.e] ∧ True) wp := ⟨Dp.out.blk (c := (x2, 57, [.int .i64 0, .int .i64 0, .string Val.e])) (by simp), Dp.out.blk (c := (x1, 57, [.int .i64 2, .int .i64 7, .string Val.e])) (by simp), trivial⟩
  have nbp0 : ∀ W, (Blk W (x2) 57 [.int .i64 0, .int .i64 0, .string Val.e] ∧ Blk W (x1) 57 [.int .i64 2, .int .i64 7, .string Val.e] ∧ True) → W.cell? ⟨x2, 0, none⟩ = some (.int .i64 0) := fun W hW => hW.1.cell 0 _ rfl
  have nbp1 : ∀ W, (Blk W (x2) 57 [.int .i64 0, .int .i64 0, .string Val.e] ∧ Blk W (x1) 57 [.int .i64 2, .int .i64 7, .string Val.e] ∧ True) → W.cell? ⟨x2, 1, none⟩ = some (.int .i64 0) := fun W hW => hW.1.cell 1 _ rfl
  have nbp2 : ∀ W, (Blk W (x2) 57 [.int .i64 0, .int .i64 0, .string Val.e] ∧ Blk W (x1) 57 [.int .i64 2, .int .i64 7, .string Val.e] ∧ True) → W.cell? ⟨x2, 2, none⟩ = some (.string Val.e) := fun W hW => hW.1.cell 2 _ rfl
  have vbp0 : ∀ W, (Blk W (x2) 57 [.int .i64 0, .int .i64 0, .string Val.e] ∧ Blk W (x1) 57 [.int .i64 2, .int .i64 7, .string Val.e] ∧ True) → W.cell? ⟨x1, 0, none⟩ = some (.int .i64 2) := fun W hW => hW.2.1.cell 0 _ rfl
  have vbp1 : ∀ W, (Blk W (x2) 57 [.int .i64 0, .int .i64 0, .string Val.e] ∧ Blk W (x1) 57 [.int .i64 2, .int .i64 7, .string Val.e] ∧ True) → W.cell? ⟨x1, 1, none⟩ = some (.int .i64 7) := fun W hW => hW.2.1.cell 1 _ rfl
  have vbp2 : ∀ W, (Blk W (x2) 57 [.int .i64 0, .int .i64 0, .string Val.e] ∧ Blk W (x1) 57 [.int .i64 2, .int .i64 7, .string Val.e] ∧ True) → W.cell? ⟨x1, 2, none⟩ = some (.string Val.e) := fun W hW => hW.2.1.cell 2 _ rfl
  refine takeH 0 (oi := ⟨some 39, _, _, _, _, _⟩) (v := ?_) rfl (by kernel_rfl) (by kernel_rfl) (by kernel_rfl) (fun _ _ _ h => h) (Or.inl ⟨by rfl, ?hyp1⟩) hSp ?restp1
  case hyp1 => (intro W hW; (try dsimp only at hW); go_simp; try with_reducible rfl)
  try simp only [Act.put, List.setIfInBounds_toArray, List.set_cons_zero, List.set_cons_succ]
  refine one (i := 1) (by kernel_rfl) ?_
  refine wpOp_wanted rfl (by rfl) fun K hK => ?_
  go_simp
  with_reducible refine (HI.out 7 _).mono ?_
  rintro e wp2 ⟨rfl, hb⟩
  have Dp2 := Lib.hid (Dp.out.below hb)
  clear hb
  have Sp2 : (fun W : World => Blk W (x2) 57 [.int .i64 0, .int .i64 0, .string Val.e] ∧ Blk W (x1) 57 [.int .i64 2, .int .i64 7, .string Val.e] ∧ True) wp2 := ⟨Dp2.out.blk (c := (x2, 57, [.int .i64 0, .int .i64 0, .string Val.e])) (by simp), Dp2.out.blk (c := (x1, 57, [.int .i64 2, .int .i64 7, .string Val.e])) (by simp), trivial⟩
  refine hK _ _ ⟨Sp2, ?_⟩
  clear hK K
  try simp only [Act.put, List.setIfInBounds_toArray, List.set_cons_zero, List.set_cons_succ]
  refine takeH 2 (oi := ⟨some 41, _, _, _, _, _⟩) (v := ?_) rfl (by kernel_rfl) (by kernel_rfl) (by kernel_rfl) (fun _ _ _ h => h) (Or.inl ⟨by rfl, ?hyp3⟩) Sp2 ?restp3
  case hyp3 => (intro W hW; (try dsimp only at hW); go_simp; try with_reducible rfl)
  try simp only [Act.put, List.setIfInBounds_toArray, List.set_cons_zero, List.set_cons_succ]
  refine takeH 3 (oi := ⟨some 42, _, _, _, _, _⟩) (v := ?_) rfl (by kernel_rfl) (by kernel_rfl) (by kernel_rfl) (fun _ _ _ h => h) (Or.inl ⟨by rfl, ?hyp4⟩) Sp2 ?restp4
  case hyp4 => (intro W hW; (try dsimp only at hW); go_simp; try with_reducible rfl)
  try simp only [Act.put, List.setIfInBounds_toArray, List.set_cons_zero, List.set_cons_succ]
  refine takeH 4 (oi := ⟨some 43, _, _, _, _, _⟩) (v := ?_) rfl (by kernel_rfl) (by kernel_rfl) (by kernel_rfl) (fun _ _ _ h => h) (Or.inl ⟨by rfl, ?hyp5⟩) Sp2 ?restp5
  case hyp5 => (intro W hW; (try dsimp only at hW); go_simp; try with_reducible rfl)
  try simp only [Act.put, List.setIfInBounds_toArray, List.set_cons_zero, List.set_cons_succ]
  refine takeH 5 (oi := ⟨some 44, _, _, _, _, _⟩) (v := ?_) rfl (by kernel_rfl) (by kernel_rfl) (by kernel_rfl) (fun _ _ _ h => h) (Or.inl ⟨by rfl, ?hyp6⟩) Sp2 ?restp6
  case hyp6 => (intro W hW; (try dsimp only at hW); go_simp; try with_reducible rfl)
  try simp only [Act.put, List.setIfInBounds_toArray, List.set_cons_zero, List.set_cons_succ]
  refine takeH 6 (oi := ⟨some 45, _, _, _, _, _⟩) (v := ?_) rfl (by kernel_rfl) (by kernel_rfl) (by kernel_rfl) (fun _ _ _ h => h) (Or.inl ⟨by rfl, ?hyp7⟩) Sp2 ?restp7
  case hyp7 => (intro W hW; (try dsimp only at hW); go_simp; try with_reducible rfl)
  try simp only [Act.put, List.setIfInBounds_toArray, List.set_cons_zero, List.set_cons_succ]
  refine takeH 7 (oi := ⟨some 46, _, _, _, _, _⟩) (v := ?_) rfl (by kernel_rfl) (by kernel_rfl) (by kernel_rfl) (fun _ _ _ h => h) (Or.inl ⟨by rfl, ?hyp8⟩) Sp2 ?restp8
  case hyp8 => (intro W hW; (try dsimp only at hW); go_simp; try with_reducible rfl)
  try simp only [Act.put, List.setIfInBounds_toArray, List.set_cons_zero, List.set_cons_succ]
  refine takeH 8 (oi := ⟨some 47, _, _, _, _, _⟩) (v := ?_) rfl (by kernel_rfl) (by kernel_rfl) (by kernel_rfl) (fun _ _ _ h => h) (Or.inl ⟨by rfl, ?hyp9⟩) Sp2 ?restp9
  case hyp9 => (intro W hW; (try dsimp only at hW); go_simp; try with_reducible rfl)
  try simp only [Act.put, List.setIfInBounds_toArray, List.set_cons_zero, List.set_cons_succ]
  refine takeH 9 (oi := ⟨some 48, _, _, _, _, _⟩) (v := ?_) rfl (by kernel_rfl) (by kernel_rfl) (by kernel_rfl) (fun _ _ _ h => h) (Or.inl ⟨by rfl, ?hyp10⟩) Sp2 ?restp10
  case hyp10 => (intro W hW; (try dsimp only at hW); go_simp; try with_reducible rfl)
  try simp only [Act.put, List.setIfInBounds_toArray, List.set_cons_zero, List.set_cons_succ]
  refine takeH 10 (oi := ⟨some 49, _, _, _, _, _⟩) (v := ?_) rfl (by kernel_rfl) (by kernel_rfl) (by kernel_rfl) (fun _ _ _ h => h) (Or.inl ⟨by rfl, ?hyp11⟩) Sp2 ?restp11
  case hyp11 => (intro W hW; (try dsimp only at hW); go_simp; try with_reducible rfl)
  try simp only [Act.put, List.setIfInBounds_toArray, List.set_cons_zero, List.set_cons_succ]
  refine one (i := 11) (by kernel_rfl) ?_
  refine wpOp_wanted rfl (by rfl) fun K hK => ?_
  go_simp
  with_reducible refine (HF3.out _ Dp2.out).mono ?_
  rintro e wp12 ⟨rfl, hb⟩
  have Dp12 := Lib.hid (Dp2.out.below hb)
  clear hb
  have Sp12 : (fun W : World => Blk W (x2) 57 [.int .i64 0, .int .i64 0, .string Val.e] ∧ Blk W (x1) 57 [.int .i64 2, .int .i64 7, .string Val.e] ∧ True) wp12 := ⟨Dp12.out.blk (c := (x2, 57, [.int .i64 0, .int .i64 0, .string Val.e])) (by simp), Dp12.out.blk (c := (x1, 57, [.int .i64 2, .int .i64 7, .string Val.e])) (by simp), trivial⟩
  refine hK _ _ ⟨Sp12, ?_⟩
  clear hK K
  try simp only [Act.put, List.setIfInBounds_toArray, List.set_cons_zero, List.set_cons_succ]
  refine one (i := 12) (by kernel_rfl) ?_
  refine wpOp_wanted rfl (by rfl) fun K hK => ?_
  go_simp
  with_reducible refine (HI.out 1 _).mono ?_
  rintro e wp13 ⟨rfl, hb⟩
  have Dp13 := Lib.hid (Dp12.out.below hb)
  clear hb
  have Sp13 : (fun W : World => Blk W (x2) 57 [.int .i64 0, .int .i64 0, .string Val.e] ∧ Blk W (x1) 57 [.int .i64 2, .int .i64 7, .string Val.e] ∧ True) wp13 := ⟨Dp13.out.blk (c := (x2, 57, [.int .i64 0, .int .i64 0, .string Val.e])) (by simp), Dp13.out.blk (c := (x1, 57, [.int .i64 2, .int .i64 7, .string Val.e])) (by simp), trivial⟩
  refine hK _ _ ⟨Sp13, ?_⟩
  clear hK K
  try simp only [Act.put, List.setIfInBounds_toArray, List.set_cons_zero, List.set_cons_succ]
  refine takeH 13 (oi := ⟨some 52, _, _, _, _, _⟩) (v := ?_) rfl (by kernel_rfl) (by kernel_rfl) (by kernel_rfl) (fun _ _ _ h => h) (Or.inl ⟨by rfl, ?hyp14⟩) Sp13 ?restp14
  case hyp14 => (intro W hW; (try dsimp only at hW); go_simp; try with_reducible rfl)
  try simp only [Act.put, List.setIfInBounds_toArray, List.set_cons_zero, List.set_cons_succ]
  refine takeH 14 (oi := ⟨some 53, _, _, _, _, _⟩) (v := ?_) rfl (by kernel_rfl) (by kernel_rfl) (by kernel_rfl) (fun _ _ _ h => h) (Or.inl ⟨by rfl, ?hyp15⟩) Sp13 ?restp15
  case hyp15 => (intro W hW; (try dsimp only at hW); go_simp; try with_reducible rfl)
  try simp only [Act.put, List.setIfInBounds_toArray, List.set_cons_zero, List.set_cons_succ]
  refine takeH 15 (oi := ⟨some 54, _, _, _, _, _⟩) (v := ?_) rfl (by kernel_rfl) (by kernel_rfl) (by kernel_rfl) (fun _ _ _ h => h) (Or.inl ⟨by rfl, ?hyp16⟩) Sp13 ?restp16
  case hyp16 => (intro W hW; (try dsimp only at hW); go_simp; try with_reducible rfl)
  try simp only [Act.put, List.setIfInBounds_toArray, List.set_cons_zero, List.set_cons_succ]
  refine takeH 16 (oi := ⟨some 55, _, _, _, _, _⟩) (v := ?_) rfl (by kernel_rfl) (by kernel_rfl) (by kernel_rfl) (fun _ _ _ h => h) (Or.inl ⟨by rfl, ?hyp17⟩) Sp13 ?restp17
  case hyp17 => (intro W hW; (try dsimp only at hW); go_simp; try with_reducible rfl)
  try simp only [Act.put, List.setIfInBounds_toArray, List.set_cons_zero, List.set_cons_succ]
  refine one (i := 17) (by kernel_rfl) ?_
  refine wpOp_wanted rfl (by rfl) fun K hK => ?_
  go_simp
  with_reducible refine (HEP.out _ Dp13.out).mono ?_
  rintro e wp18 ⟨rfl, hb⟩
  have Dp18 := Lib.hid (Dp13.out.below hb)
  clear hb
  have Sp18 : (fun W : World => Blk W (x2) 57 [.int .i64 0, .int .i64 0, .string Val.e] ∧ Blk W (x1) 57 [.int .i64 2, .int .i64 7, .string Val.e] ∧ True) wp18 := ⟨Dp18.out.blk (c := (x2, 57, [.int .i64 0, .int .i64 0, .string Val.e])) (by simp), Dp18.out.blk (c := (x1, 57, [.int .i64 2, .int .i64 7, .string Val.e])) (by simp), trivial⟩
  refine hK _ _ ⟨Sp18, ?_⟩
  clear hK K
  try simp only [Act.put, List.setIfInBounds_toArray, List.set_cons_zero, List.set_cons_succ]
  refine takeH 18 (oi := ⟨some 57, _, _, _, _, _⟩) (v := ?_) rfl (by kernel_rfl) (by kernel_rfl) (by kernel_rfl) (fun _ _ _ h => h) (Or.inl ⟨by rfl, ?hyp19⟩) Sp18 ?restp19
  case hyp19 => (intro W hW; (try dsimp only at hW); go_simp; try with_reducible rfl)
  try simp only [Act.put, List.setIfInBounds_toArray, List.set_cons_zero, List.set_cons_succ]
  refine takeH 19 (oi := ⟨some 58, _, _, _, _, _⟩) (v := ?_) rfl (by kernel_rfl) (by kernel_rfl) (by kernel_rfl) (fun _ _ _ h => h) (Or.inl ⟨by rfl, ?hyp20⟩) Sp18 ?restp20
  case hyp20 => (intro W hW; (try dsimp only at hW); go_simp; try with_reducible rfl)
  try simp only [Act.put, List.setIfInBounds_toArray, List.set_cons_zero, List.set_cons_succ]
  refine takeH 20 (oi := ⟨some 59, _, _, _, _, _⟩) (v := ?_) rfl (by kernel_rfl) (by kernel_rfl) (by kernel_rfl) (fun _ _ _ h => h) (Or.inl ⟨by rfl, ?hyp21⟩) Sp18 ?restp21
  case hyp21 => (intro W hW; (try dsimp only at hW); go_simp; try with_reducible rfl)
  try simp only [Act.put, List.setIfInBounds_toArray, List.set_cons_zero, List.set_cons_succ]
  refine one (i := 21) (by kernel_rfl) ?_
  refine wpOp_wanted rfl (by rfl) fun K hK => ?_
  go_simp
  with_reducible refine (HNM.out _).mono ?_
  rintro e wp22 ⟨v, rfl, ⟨_, _, hb⟩, rfl⟩
  have Dp22 := Lib.hid (Dp18.out.below hb)
  clear hb
  have Sp22 : (fun W : World => Blk W (x2) 57 [.int .i64 0, .int .i64 0, .string Val.e] ∧ Blk W (x1) 57 [.int .i64 2, .int .i64 7, .string Val.e] ∧ True) wp22 := ⟨Dp22.out.blk (c := (x2, 57, [.int .i64 0, .int .i64 0, .string Val.e])) (by simp), Dp22.out.blk (c := (x1, 57, [.int .i64 2, .int .i64 7, .string Val.e])) (by simp), trivial⟩
  refine hK _ _ ⟨Sp22, ?_⟩
  clear hK K
  try simp only [Act.put, List.setIfInBounds_toArray, List.set_cons_zero, List.set_cons_succ]
  refine takeH 22 (oi := ⟨some 61, _, _, _, _, _⟩) (v := ?_) rfl (by kernel_rfl) (by kernel_rfl) (by kernel_rfl) (fun _ _ _ h => h) (Or.inl ⟨by rfl, ?hyp23⟩) Sp22 ?restp23
  case hyp23 => (intro W hW; (try dsimp only at hW); go_simp; try with_reducible rfl)
  try simp only [Act.put, List.setIfInBounds_toArray, List.set_cons_zero, List.set_cons_succ]
  refine takeH 23 (oi := ⟨some 62, _, _, _, _, _⟩) (v := ?_) rfl (by kernel_rfl) (by kernel_rfl) (by kernel_rfl) (fun _ _ _ h => h) (Or.inl ⟨by rfl, ?hyp24⟩) Sp22 ?restp24
  case hyp24 => (intro W hW; (try dsimp only at hW); go_simp; try with_reducible rfl)
  try simp only [Act.put, List.setIfInBounds_toArray, List.set_cons_zero, List.set_cons_succ]
  refine takeH 24 (oi := ⟨some 63, _, _, _, _, _⟩) (v := ?_) rfl (by kernel_rfl) (by kernel_rfl) (by kernel_rfl) (fun _ _ _ h => h) (Or.inl ⟨by rfl, ?hyp25⟩) Sp22 ?restp25
  case hyp25 => (intro W hW; (try dsimp only at hW); go_simp; try with_reducible rfl)
  try simp only [Act.put, List.setIfInBounds_toArray, List.set_cons_zero, List.set_cons_succ]
  refine takeH 25 (oi := ⟨some 0, _, _, _, _, _⟩) (v := ?_) rfl (by kernel_rfl) (by kernel_rfl) (by kernel_rfl) (fun _ _ _ h => h) (Or.inl ⟨by rfl, ?hyp26⟩) Sp22 ?restp26
  case hyp26 => (intro W hW; (try dsimp only at hW); go_simp; try with_reducible rfl)
  try simp only [Act.put, List.setIfInBounds_toArray, List.set_cons_zero, List.set_cons_succ]
  refine wpAnyH_done (by kernel_rfl) ?_ _
  clear nbp0 nbp1 nbp2 vbp0 vbp1 vbp2
  go_wp2
  go_ret
  exact ⟨rfl, Dp22.out.bel⟩
end Go.Proofs.Ytmjfmfelbmbniaa
