/- Layer 14: the law's alive. -/
import Derived.Test.YtmjfmfelbmbniaaBE
namespace Go.Proofs.Ytmjfmfelbmbniaa
open Go.RowKit Go.Maps HK ShM
set_option linter.unusedVariables false
set_option linter.unusedSimpArgs false
open RH
theorem RdS.none (w : World) : RdS w (.slice none 0 0) [] := ⟨Option.none, 0, rfl, Nat.le_refl _, by decide, fun j s h => by simp at h⟩
section
variable {w w' w0 : World} {U Z Y : Nat → Prop} {q : Option Addr} {D F : Int} {T T' : List Sh} {N i tb : Nat} {mp : Value} {s s' : Tab} {tabs tabs' : List T3} {L : List (Nat × TypeId × List Value)} {f e : Int}
theorem TL.setTo (h : TL w0 w Z q D F T N tabs L) (hi : tabs[i]? = some (tb, mp, s)) (x v : Val) (hx : x.s.size ≤ maxLen) (hN : N ≤ 100000) (he : tsetM D F T s x v = ⟨f, e, s', T'⟩) (ht : tabs.set i (tb, mp, s') = tabs') : Calls Try.prog 63 #[.pointer (some ⟨tb, 0, none⟩), x.v, v.v] w fun r w' =>
    r = .returned (.tuple #[.int .i64 f, .int .i64 e]) ∧ TL w0 w' Z q D F T' (N + 1) tabs' L := by
  refine (h.set hi x v hx hN).mono ?_
  rintro r w' ⟨h1, h2, h3⟩
  rw [he] at h1 h2
  subst ht
  exact ⟨h1, h2⟩
end
def al0 : Tab := ⟨[], [], false, 0⟩
def al1 : Tab := ⟨[intV 1], [], false, 0⟩
def al2 : Tab := ⟨[intV 1, intV 1], [], false, 0⟩
def al3 : Tab := ⟨[intV 1, intV 1], [(intV 4, intV 1)], true, 0⟩
def al4 : Tab := ⟨[intV 1, intV 1, intV 1, intV 1], [], true, 0⟩
def al5 : Tab := ⟨[intV 1, intV 1, intV 1], [], true, 0⟩
abbrev xB : ByteArray := ⟨#[120]⟩
abbrev yB : ByteArray := ⟨#[121]⟩
def aT1 : List Sh := (addM 8 8 T0 0 xB).T
def aT2 : List Sh := (addM 8 8 aT1 1 yB).T
def bl1 : Tab := ⟨[], [(strV xB, intV 1)], false, 1⟩
def bl2 : Tab := ⟨[], [(strV xB, intV 1), (strV yB, intV 1)], false, 2⟩
def bl3 : Tab := ⟨[], [(strV xB, intV 1), (strV yB, intV 1), (⟨1, 1, Val.e⟩, intV 1)], true, 0⟩
theorem al_1 : tsetM 8 8 T0 al0 (intV 1) (intV 1) = ⟨1, 0, al1, T0⟩ := by rfl
theorem al_2 : tsetM 8 8 T0 al1 (intV 2) (intV 1) = ⟨1, 0, al2, T0⟩ := by rfl
theorem al_3 : tsetM 8 8 T0 al2 (intV 4) (intV 1) = ⟨1, 0, al3, T0⟩ := by rfl
theorem al_4 : tsetM 8 8 T0 al3 (intV 3) (intV 1) = ⟨1, 0, al4, T0⟩ := by rfl
theorem al_5 : tsetM 8 8 T0 al4 (intV 4) Val.nil = ⟨0, 0, al5, T0⟩ := by rfl
theorem bl_1 : tsetM 8 8 T0 al0 (strV xB) (intV 1) = ⟨1, 0, bl1, aT1⟩ := by rfl
theorem bl_2 : tsetM 8 8 aT1 bl1 (strV yB) (intV 1) = ⟨1, 0, bl2, aT2⟩ := by rfl
theorem bl_3 : tsetM 8 8 aT2 bl2 ⟨1, 1, Val.e⟩ (intV 1) = ⟨1, 0, bl3, aT2⟩ := by rfl
/-- How the first table stands in its loop. -/
def alN : Nat → Tab
  | 0 => al0
  | 1 => al1
  | 2 => al2
  | _ => al3
set_option maxHeartbeats 16000000 in
set_option maxRecDepth 20000 in
theorem talive_calls (w : World) : Calls Try.prog 60 #[] w fun e w' => e = .returned (.bool true) ∧ Below w.heap.size w w' := by
  have HI := Lib.hid (fun (n : Int) (W : World) => ofInt_calls n W)
  have HS := Lib.hid (fun (s : ByteArray) (W : World) => ofStr_calls s W)
  have HBO := Lib.hid (fun (W : World) => ofBool_calls true W)
  have HNT := Lib.hid (fun (W0 W : World) (h : Below W0.heap.size W0 W) => show Calls Try.prog 61 #[.int .i64 8, .int .i64 8, .slice none 0 0] W fun e w' => ∃ sb, e = .returned (.pointer (some ⟨sb, 0, none⟩)) ∧ TL W0 w' (fun _ => False) (some ⟨sb, 0, none⟩) 8 8 T0 0 [] [] ∧ Below W.heap.size W w' from TL.newTree 8 8 (.slice none 0 0) [] W0 W h (RdS.none W) (fun s hs => by cases hs) (fun b hb => hb.elim))
  have ix0 : ∀ W, (Instr.index 199 (.agg #[.int .i64 1, .int .i64 2, .int .i64 4]) (.int .i64 0)).run Try.prog W = .ok (.int .i64 1) W := fun W => by kernel_rfl
  have ix1 : ∀ W, (Instr.index 199 (.agg #[.int .i64 1, .int .i64 2, .int .i64 4]) (.int .i64 1)).run Try.prog W = .ok (.int .i64 2) W := fun W => by kernel_rfl
  have ix2 : ∀ W, (Instr.index 199 (.agg #[.int .i64 1, .int .i64 2, .int .i64 4]) (.int .i64 2)).run Try.prog W = .ok (.int .i64 4) W := fun W => by kernel_rfl
  go_enter Try.func60, Try.ntmps60
  go_upto_region 4 with (first
    | (go_at_call 61; (with_reducible refine (HNT.out w w (Below.refl _ _)).mono ?_); rintro e w1 ⟨sb, rfl, h1, _⟩; have D1 := Lib.hid h1; clear h1; have HNW := Lib.hid (D1.out.new rfl))
    | (go_at_call 62; (with_reducible refine HNW.out.mono ?_); rintro e w2 ⟨tb, rfl, h1, _⟩; have D2 := Lib.hid h1; clear h1))
  have D2 : Hid (TL w w2 (fun _ => False) (some ⟨sb, 0, none⟩) 8 8 T0 0 [(tb, .pointer none, al0)] []) := D2
  go_upto_region 5 with (go_at_call 50; (with_reducible refine (HI.out _ _).mono ?_); rintro e w3 ⟨rfl, hb⟩; have D3 := Lib.hid ((D2.out.below hb).alloc [.int .i64 2, .int .i64 1, .string Val.e] 57); clear hb)
  obtain ⟨b1, hb1⟩ : ∃ b, b = w3.heap.size := ⟨_, rfl⟩
  rw [← hb1] at D3 ⊢
  obtain ⟨w4, hw4⟩ : ∃ w4, w4 = w3.alloc (.cells #[.int .i64 2, .int .i64 1, .string Val.e] 57) := ⟨_, rfl⟩
  have D4 : Hid (TL w w4 (fun _ => False) (some ⟨sb, 0, none⟩) 8 8 T0 0 [(tb, .pointer none, (alN 0))] [(b1, 57, [.int .i64 2, .int .i64 1, .string Val.e])]) := Lib.hid (by rw [hw4]; exact D3.out)
  rw [← hw4]
  clear hw4 hb1 D3 D2
  go_wp2
  go_loopw [4, 19] (fun _ ii wr => ∃ j : Nat, j ≤ 3 ∧ ii = .int .i64 j ∧ Hid (TL w wr (fun _ => False) (some ⟨sb, 0, none⟩) 8 8 T0 j [(tb, .pointer none, (alN j))] [(b1, 57, [.int .i64 2, .int .i64 1, .string Val.e])])) (fun _ ii _ => 3 - (intOf ii).toNat)
  case atStart => exact ⟨0, by omega, rfl, D4⟩
  case round =>
    obtain ⟨j, hj, rfl, HD⟩ := hrel
    by_cases e0 : j = 0
    · subst e0
      clear hj
      have HD0 : Hid (TL w wr (fun _ => False) (some ⟨sb, 0, none⟩) 8 8 T0 0 [(tb, .pointer none, al0)] [(b1, 57, [.int .i64 2, .int .i64 1, .string Val.e])]) := HD
      go_upto_region 8 with fail
      have BLr0 : Below wr.heap.size wr ({ wr with drawn := wr.drawn + 1 } : World) := ⟨rfl, rfl, rfl, Nat.le_refl _, fun _ _ => rfl⟩
      have Dr0 := Lib.hid (HD0.out.below BLr0)
      refine wp_region_held (S := fun W => Blk W (b1) 57 [.int .i64 2, .int .i64 1, .string Val.e] ∧ True) (by kernel_rfl) ?_
      generalize ({ wr with drawn := wr.drawn + 1 } : World) = wr0 at BLr0 Dr0 ⊢
      have hSr0 : (fun W : World => Blk W (b1) 57 [.int .i64 2, .int .i64 1, .string Val.e] ∧ True) wr0 := ⟨Dr0.out.blk (c := (b1, 57, [.int .i64 2, .int .i64 1, .string Val.e])) (by simp), trivial⟩
      have oner00 : ∀ W, (Blk W (b1) 57 [.int .i64 2, .int .i64 1, .string Val.e] ∧ True) → W.cell? ⟨b1, 0, none⟩ = some (.int .i64 2) := fun W hW => hW.1.cell 0 _ rfl
      have oner01 : ∀ W, (Blk W (b1) 57 [.int .i64 2, .int .i64 1, .string Val.e] ∧ True) → W.cell? ⟨b1, 1, none⟩ = some (.int .i64 1) := fun W hW => hW.1.cell 1 _ rfl
      have oner02 : ∀ W, (Blk W (b1) 57 [.int .i64 2, .int .i64 1, .string Val.e] ∧ True) → W.cell? ⟨b1, 2, none⟩ = some (.string Val.e) := fun W hW => hW.1.cell 2 _ rfl
      refine takeH 0 (oi := ⟨some 22, _, _, _, _, _⟩) (v := ?_) rfl (by kernel_rfl) (by kernel_rfl) (by kernel_rfl) (fun _ _ _ h => h) (Or.inl ⟨by rfl, ?hyr01⟩) hSr0 ?restr01
      case hyr01 => (intro W hW; (try dsimp only at hW); go_simp; try with_reducible rfl)
      try simp only [Act.put, List.setIfInBounds_toArray, List.set_cons_zero, List.set_cons_succ]
      refine takeH 1 (oi := ⟨some 23, _, _, _, _, _⟩) (v := ?_) rfl (by kernel_rfl) (by kernel_rfl) (by kernel_rfl) (fun _ _ _ h => h) (Or.inl ⟨by rfl, ?hyr02⟩) hSr0 ?restr02
      case hyr02 => (intro W hW; (try dsimp only at hW); go_simp; try with_reducible rfl)
      try simp only [Act.put, List.setIfInBounds_toArray, List.set_cons_zero, List.set_cons_succ]
      refine takeH 3 (oi := ⟨some 25, _, _, _, _, _⟩) (v := ?_) rfl (by kernel_rfl) (by kernel_rfl) (by kernel_rfl) (fun _ _ _ h => h) (Or.inl ⟨by rfl, ?hyr03⟩) hSr0 ?restr03
      case hyr03 => (intro W hW; (try dsimp only at hW); go_simp; try with_reducible rfl)
      try simp only [Act.put, List.setIfInBounds_toArray, List.set_cons_zero, List.set_cons_succ]
      refine one (i := 2) (by kernel_rfl) ?_
      refine wpOp_wanted rfl (by rfl) fun K hK => ?_
      go_simp
      with_reducible refine (HI.out 1 _).mono ?_
      rintro e wr04 ⟨rfl, hb⟩
      have Dr04 := Lib.hid (Dr0.out.below hb)
      clear hb
      have Sr04 : (fun W : World => Blk W (b1) 57 [.int .i64 2, .int .i64 1, .string Val.e] ∧ True) wr04 := ⟨Dr04.out.blk (c := (b1, 57, [.int .i64 2, .int .i64 1, .string Val.e])) (by simp), trivial⟩
      refine hK _ _ ⟨Sr04, ?_⟩
      clear hK K
      try simp only [Act.put, List.setIfInBounds_toArray, List.set_cons_zero, List.set_cons_succ]
      refine one (i := 4) (by kernel_rfl) ?_
      refine wpOp_wanted rfl (by rfl) fun K hK => ?_
      go_simp
      with_reducible refine (Dr04.out.setTo (i := 0) rfl (intV 1) (intV 1) (by decide) (by omega) al_1 rfl).mono ?_
      rintro e wr05 ⟨rfl, hh⟩
      have Dr05 := Lib.hid (hh)
      clear hh
      have Sr05 : (fun W : World => Blk W (b1) 57 [.int .i64 2, .int .i64 1, .string Val.e] ∧ True) wr05 := ⟨Dr05.out.blk (c := (b1, 57, [.int .i64 2, .int .i64 1, .string Val.e])) (by simp), trivial⟩
      refine hK _ _ ⟨Sr05, ?_⟩
      clear hK K
      try simp only [Act.put, List.setIfInBounds_toArray, List.set_cons_zero, List.set_cons_succ]
      refine wpAnyH_done (by kernel_rfl) ?_ _
      clear oner00 oner01 oner02
      go_wp2
      go_roundw
      case rel => exact ⟨1, by omega, by first | rfl | go_num, Dr05⟩
      case measure => simp [intOf]
    by_cases e1 : j = 1
    · subst e1
      clear hj
      have HD0 : Hid (TL w wr (fun _ => False) (some ⟨sb, 0, none⟩) 8 8 T0 1 [(tb, .pointer none, al1)] [(b1, 57, [.int .i64 2, .int .i64 1, .string Val.e])]) := HD
      go_upto_region 8 with fail
      have BLr1 : Below wr.heap.size wr ({ wr with drawn := wr.drawn + 1 } : World) := ⟨rfl, rfl, rfl, Nat.le_refl _, fun _ _ => rfl⟩
      have Dr1 := Lib.hid (HD0.out.below BLr1)
      refine wp_region_held (S := fun W => Blk W (b1) 57 [.int .i64 2, .int .i64 1, .string Val.e] ∧ True) (by kernel_rfl) ?_
      generalize ({ wr with drawn := wr.drawn + 1 } : World) = wr1 at BLr1 Dr1 ⊢
      have hSr1 : (fun W : World => Blk W (b1) 57 [.int .i64 2, .int .i64 1, .string Val.e] ∧ True) wr1 := ⟨Dr1.out.blk (c := (b1, 57, [.int .i64 2, .int .i64 1, .string Val.e])) (by simp), trivial⟩
      have oner10 : ∀ W, (Blk W (b1) 57 [.int .i64 2, .int .i64 1, .string Val.e] ∧ True) → W.cell? ⟨b1, 0, none⟩ = some (.int .i64 2) := fun W hW => hW.1.cell 0 _ rfl
      have oner11 : ∀ W, (Blk W (b1) 57 [.int .i64 2, .int .i64 1, .string Val.e] ∧ True) → W.cell? ⟨b1, 1, none⟩ = some (.int .i64 1) := fun W hW => hW.1.cell 1 _ rfl
      have oner12 : ∀ W, (Blk W (b1) 57 [.int .i64 2, .int .i64 1, .string Val.e] ∧ True) → W.cell? ⟨b1, 2, none⟩ = some (.string Val.e) := fun W hW => hW.1.cell 2 _ rfl
      refine takeH 0 (oi := ⟨some 22, _, _, _, _, _⟩) (v := ?_) rfl (by kernel_rfl) (by kernel_rfl) (by kernel_rfl) (fun _ _ _ h => h) (Or.inl ⟨by rfl, ?hyr16⟩) hSr1 ?restr16
      case hyr16 => (intro W hW; (try dsimp only at hW); go_simp; try with_reducible rfl)
      try simp only [Act.put, List.setIfInBounds_toArray, List.set_cons_zero, List.set_cons_succ]
      refine takeH 1 (oi := ⟨some 23, _, _, _, _, _⟩) (v := ?_) rfl (by kernel_rfl) (by kernel_rfl) (by kernel_rfl) (fun _ _ _ h => h) (Or.inl ⟨by rfl, ?hyr17⟩) hSr1 ?restr17
      case hyr17 => (intro W hW; (try dsimp only at hW); go_simp; try with_reducible rfl)
      try simp only [Act.put, List.setIfInBounds_toArray, List.set_cons_zero, List.set_cons_succ]
      refine takeH 3 (oi := ⟨some 25, _, _, _, _, _⟩) (v := ?_) rfl (by kernel_rfl) (by kernel_rfl) (by kernel_rfl) (fun _ _ _ h => h) (Or.inl ⟨by rfl, ?hyr18⟩) hSr1 ?restr18
      case hyr18 => (intro W hW; (try dsimp only at hW); go_simp; try with_reducible rfl)
      try simp only [Act.put, List.setIfInBounds_toArray, List.set_cons_zero, List.set_cons_succ]
      refine one (i := 2) (by kernel_rfl) ?_
      refine wpOp_wanted rfl (by rfl) fun K hK => ?_
      go_simp
      with_reducible refine (HI.out 2 _).mono ?_
      rintro e wr19 ⟨rfl, hb⟩
      have Dr19 := Lib.hid (Dr1.out.below hb)
      clear hb
      have Sr19 : (fun W : World => Blk W (b1) 57 [.int .i64 2, .int .i64 1, .string Val.e] ∧ True) wr19 := ⟨Dr19.out.blk (c := (b1, 57, [.int .i64 2, .int .i64 1, .string Val.e])) (by simp), trivial⟩
      refine hK _ _ ⟨Sr19, ?_⟩
      clear hK K
      try simp only [Act.put, List.setIfInBounds_toArray, List.set_cons_zero, List.set_cons_succ]
      refine one (i := 4) (by kernel_rfl) ?_
      refine wpOp_wanted rfl (by rfl) fun K hK => ?_
      go_simp
      with_reducible refine (Dr19.out.setTo (i := 0) rfl (intV 2) (intV 1) (by decide) (by omega) al_2 rfl).mono ?_
      rintro e wr110 ⟨rfl, hh⟩
      have Dr110 := Lib.hid (hh)
      clear hh
      have Sr110 : (fun W : World => Blk W (b1) 57 [.int .i64 2, .int .i64 1, .string Val.e] ∧ True) wr110 := ⟨Dr110.out.blk (c := (b1, 57, [.int .i64 2, .int .i64 1, .string Val.e])) (by simp), trivial⟩
      refine hK _ _ ⟨Sr110, ?_⟩
      clear hK K
      try simp only [Act.put, List.setIfInBounds_toArray, List.set_cons_zero, List.set_cons_succ]
      refine wpAnyH_done (by kernel_rfl) ?_ _
      clear oner10 oner11 oner12
      go_wp2
      go_roundw
      case rel => exact ⟨2, by omega, by first | rfl | go_num, Dr110⟩
      case measure => simp [intOf]
    by_cases e2 : j = 2
    · subst e2
      clear hj
      have HD0 : Hid (TL w wr (fun _ => False) (some ⟨sb, 0, none⟩) 8 8 T0 2 [(tb, .pointer none, al2)] [(b1, 57, [.int .i64 2, .int .i64 1, .string Val.e])]) := HD
      go_upto_region 8 with fail
      have BLr2 : Below wr.heap.size wr ({ wr with drawn := wr.drawn + 1 } : World) := ⟨rfl, rfl, rfl, Nat.le_refl _, fun _ _ => rfl⟩
      have Dr2 := Lib.hid (HD0.out.below BLr2)
      refine wp_region_held (S := fun W => Blk W (b1) 57 [.int .i64 2, .int .i64 1, .string Val.e] ∧ True) (by kernel_rfl) ?_
      generalize ({ wr with drawn := wr.drawn + 1 } : World) = wr2 at BLr2 Dr2 ⊢
      have hSr2 : (fun W : World => Blk W (b1) 57 [.int .i64 2, .int .i64 1, .string Val.e] ∧ True) wr2 := ⟨Dr2.out.blk (c := (b1, 57, [.int .i64 2, .int .i64 1, .string Val.e])) (by simp), trivial⟩
      have oner20 : ∀ W, (Blk W (b1) 57 [.int .i64 2, .int .i64 1, .string Val.e] ∧ True) → W.cell? ⟨b1, 0, none⟩ = some (.int .i64 2) := fun W hW => hW.1.cell 0 _ rfl
      have oner21 : ∀ W, (Blk W (b1) 57 [.int .i64 2, .int .i64 1, .string Val.e] ∧ True) → W.cell? ⟨b1, 1, none⟩ = some (.int .i64 1) := fun W hW => hW.1.cell 1 _ rfl
      have oner22 : ∀ W, (Blk W (b1) 57 [.int .i64 2, .int .i64 1, .string Val.e] ∧ True) → W.cell? ⟨b1, 2, none⟩ = some (.string Val.e) := fun W hW => hW.1.cell 2 _ rfl
      refine takeH 0 (oi := ⟨some 22, _, _, _, _, _⟩) (v := ?_) rfl (by kernel_rfl) (by kernel_rfl) (by kernel_rfl) (fun _ _ _ h => h) (Or.inl ⟨by rfl, ?hyr211⟩) hSr2 ?restr211
      case hyr211 => (intro W hW; (try dsimp only at hW); go_simp; try with_reducible rfl)
      try simp only [Act.put, List.setIfInBounds_toArray, List.set_cons_zero, List.set_cons_succ]
      refine takeH 1 (oi := ⟨some 23, _, _, _, _, _⟩) (v := ?_) rfl (by kernel_rfl) (by kernel_rfl) (by kernel_rfl) (fun _ _ _ h => h) (Or.inl ⟨by rfl, ?hyr212⟩) hSr2 ?restr212
      case hyr212 => (intro W hW; (try dsimp only at hW); go_simp; try with_reducible rfl)
      try simp only [Act.put, List.setIfInBounds_toArray, List.set_cons_zero, List.set_cons_succ]
      refine takeH 3 (oi := ⟨some 25, _, _, _, _, _⟩) (v := ?_) rfl (by kernel_rfl) (by kernel_rfl) (by kernel_rfl) (fun _ _ _ h => h) (Or.inl ⟨by rfl, ?hyr213⟩) hSr2 ?restr213
      case hyr213 => (intro W hW; (try dsimp only at hW); go_simp; try with_reducible rfl)
      try simp only [Act.put, List.setIfInBounds_toArray, List.set_cons_zero, List.set_cons_succ]
      refine one (i := 2) (by kernel_rfl) ?_
      refine wpOp_wanted rfl (by rfl) fun K hK => ?_
      go_simp
      with_reducible refine (HI.out 4 _).mono ?_
      rintro e wr214 ⟨rfl, hb⟩
      have Dr214 := Lib.hid (Dr2.out.below hb)
      clear hb
      have Sr214 : (fun W : World => Blk W (b1) 57 [.int .i64 2, .int .i64 1, .string Val.e] ∧ True) wr214 := ⟨Dr214.out.blk (c := (b1, 57, [.int .i64 2, .int .i64 1, .string Val.e])) (by simp), trivial⟩
      refine hK _ _ ⟨Sr214, ?_⟩
      clear hK K
      try simp only [Act.put, List.setIfInBounds_toArray, List.set_cons_zero, List.set_cons_succ]
      refine one (i := 4) (by kernel_rfl) ?_
      refine wpOp_wanted rfl (by rfl) fun K hK => ?_
      go_simp
      with_reducible refine (Dr214.out.setTo (i := 0) rfl (intV 4) (intV 1) (by decide) (by omega) al_3 rfl).mono ?_
      rintro e wr215 ⟨rfl, hh⟩
      have Dr215 := Lib.hid (hh)
      clear hh
      have Sr215 : (fun W : World => Blk W (b1) 57 [.int .i64 2, .int .i64 1, .string Val.e] ∧ True) wr215 := ⟨Dr215.out.blk (c := (b1, 57, [.int .i64 2, .int .i64 1, .string Val.e])) (by simp), trivial⟩
      refine hK _ _ ⟨Sr215, ?_⟩
      clear hK K
      try simp only [Act.put, List.setIfInBounds_toArray, List.set_cons_zero, List.set_cons_succ]
      refine wpAnyH_done (by kernel_rfl) ?_ _
      clear oner20 oner21 oner22
      go_wp2
      go_roundw
      case rel => exact ⟨3, by omega, by first | rfl | go_num, Dr215⟩
      case measure => simp [intOf]
    obtain rfl : j = 3 := by omega
    have HD0 : Hid (TL w wr (fun _ => False) (some ⟨sb, 0, none⟩) 8 8 T0 3 [(tb, .pointer none, al3)] [(b1, 57, [.int .i64 2, .int .i64 1, .string Val.e])]) := HD
    go_upto_region 11 with (go_at_call 72; (with_reducible refine (HD0.out.len (i := 0) rfl).mono ?_); rintro e w5 ⟨rfl, rfl⟩)
    have BLq : Below wr.heap.size wr ({ wr with drawn := wr.drawn + 1 } : World) := ⟨rfl, rfl, rfl, Nat.le_refl _, fun _ _ => rfl⟩
    have Dq := Lib.hid (HD0.out.below BLq)
    refine wp_region_held (S := fun W => Blk W (b1) 57 [.int .i64 2, .int .i64 1, .string Val.e] ∧ True) (by kernel_rfl) ?_
    generalize ({ wr with drawn := wr.drawn + 1 } : World) = wq at BLq Dq ⊢
    have hSq : (fun W : World => Blk W (b1) 57 [.int .i64 2, .int .i64 1, .string Val.e] ∧ True) wq := ⟨Dq.out.blk (c := (b1, 57, [.int .i64 2, .int .i64 1, .string Val.e])) (by simp), trivial⟩
    have oneq0 : ∀ W, (Blk W (b1) 57 [.int .i64 2, .int .i64 1, .string Val.e] ∧ True) → W.cell? ⟨b1, 0, none⟩ = some (.int .i64 2) := fun W hW => hW.1.cell 0 _ rfl
    have oneq1 : ∀ W, (Blk W (b1) 57 [.int .i64 2, .int .i64 1, .string Val.e] ∧ True) → W.cell? ⟨b1, 1, none⟩ = some (.int .i64 1) := fun W hW => hW.1.cell 1 _ rfl
    have oneq2 : ∀ W, (Blk W (b1) 57 [.int .i64 2, .int .i64 1, .string Val.e] ∧ True) → W.cell? ⟨b1, 2, none⟩ = some (.string Val.e) := fun W hW => hW.1.cell 2 _ rfl
    refine takeH 0 (oi := ⟨some 30, _, _, _, _, _⟩) (v := ?_) rfl (by kernel_rfl) (by kernel_rfl) (by kernel_rfl) (fun _ _ _ h => h) (Or.inl ⟨by rfl, ?hyq16⟩) hSq ?restq16
    case hyq16 => (intro W hW; (try dsimp only at hW); go_simp; try with_reducible rfl)
    try simp only [Act.put, List.setIfInBounds_toArray, List.set_cons_zero, List.set_cons_succ]
    refine takeH 2 (oi := ⟨some 32, _, _, _, _, _⟩) (v := ?_) rfl (by kernel_rfl) (by kernel_rfl) (by kernel_rfl) (fun _ _ _ h => h) (Or.inl ⟨by rfl, ?hyq17⟩) hSq ?restq17
    case hyq17 => (intro W hW; (try dsimp only at hW); go_simp; try with_reducible rfl)
    try simp only [Act.put, List.setIfInBounds_toArray, List.set_cons_zero, List.set_cons_succ]
    refine one (i := 1) (by kernel_rfl) ?_
    refine wpOp_wanted rfl (by rfl) fun K hK => ?_
    go_simp
    with_reducible refine (HI.out 3 _).mono ?_
    rintro e wq18 ⟨rfl, hb⟩
    have Dq18 := Lib.hid (Dq.out.below hb)
    clear hb
    have Sq18 : (fun W : World => Blk W (b1) 57 [.int .i64 2, .int .i64 1, .string Val.e] ∧ True) wq18 := ⟨Dq18.out.blk (c := (b1, 57, [.int .i64 2, .int .i64 1, .string Val.e])) (by simp), trivial⟩
    refine hK _ _ ⟨Sq18, ?_⟩
    clear hK K
    try simp only [Act.put, List.setIfInBounds_toArray, List.set_cons_zero, List.set_cons_succ]
    refine one (i := 3) (by kernel_rfl) ?_
    refine wpOp_wanted rfl (by rfl) fun K hK => ?_
    go_simp
    with_reducible refine (Dq18.out.setTo (i := 0) rfl (intV 3) (intV 1) (by decide) (by omega) al_4 rfl).mono ?_
    rintro e wq19 ⟨rfl, hh⟩
    have Dq19 := Lib.hid (hh)
    clear hh
    have Sq19 : (fun W : World => Blk W (b1) 57 [.int .i64 2, .int .i64 1, .string Val.e] ∧ True) wq19 := ⟨Dq19.out.blk (c := (b1, 57, [.int .i64 2, .int .i64 1, .string Val.e])) (by simp), trivial⟩
    refine hK _ _ ⟨Sq19, ?_⟩
    clear hK K
    try simp only [Act.put, List.setIfInBounds_toArray, List.set_cons_zero, List.set_cons_succ]
    refine wpAnyH_done (by kernel_rfl) ?_ _
    clear oneq0 oneq1 oneq2
    have D6 := Lib.hid Dq19.out
    go_upto_region 16 with (first
      | (go_at_call 72; (with_reducible refine (Dq19.out.len (i := 0) rfl).mono ?_); rintro e w7 ⟨rfl, rfl⟩)
      | (go_at_call 50; (with_reducible refine (HI.out 4 _).mono ?_); rintro e w8 ⟨rfl, hb⟩; have D8 := Lib.hid (Dq19.out.below hb); clear hb; have HST := Lib.hid (D8.out.setTo (i := 0) rfl (intV 4) Val.nil (by decide) (by omega) al_5 rfl))
      | (go_at_call 63; (with_reducible refine HST.out.mono ?_); rintro e w9 ⟨rfl, hh⟩; have D9 := Lib.hid hh; clear hh; have HLN := Lib.hid (D9.out.len (i := 0) rfl); have HNT2 := Lib.hid (HNT.out w9 w9 (Below.refl _ _)); have ONE := Lib.hid (D9.out.blk (c := (b1, 57, [.int .i64 2, .int .i64 1, .string Val.e])) (by simp)))
      | (go_at_call 72; (with_reducible refine HLN.out.mono ?_); rintro e w7 ⟨rfl, rfl⟩)
      | (go_at_call 61; (with_reducible refine HNT2.out.mono ?_); rintro e w10 ⟨sb2, rfl, h1, hb⟩; have D10 := Lib.hid (h1.hold (ONE.out.of (hb.block _ ONE.out.lt)) ONE.out.lt (fun hz => hz.elim)); clear h1 hb; have HNW2 := Lib.hid (D10.out.new rfl))
      | (go_at_call 62; (with_reducible refine HNW2.out.mono ?_); rintro e w11 ⟨tb2, rfl, h1, _⟩; have D11 := Lib.hid h1; clear h1))
    have E0 : Hid (TL w9 w11 (fun _ => False) (some ⟨sb2, 0, none⟩) 8 8 T0 0 [(tb2, .pointer none, al0)] [(b1, 57, [.int .i64 2, .int .i64 1, .string Val.e])]) := D11
    have BLs : Below w11.heap.size w11 ({ w11 with drawn := w11.drawn + 1 } : World) := ⟨rfl, rfl, rfl, Nat.le_refl _, fun _ _ => rfl⟩
    have Ds := Lib.hid (E0.out.below BLs)
    refine wp_region_held (S := fun W => Blk W (b1) 57 [.int .i64 2, .int .i64 1, .string Val.e] ∧ True) (by kernel_rfl) ?_
    generalize ({ w11 with drawn := w11.drawn + 1 } : World) = ws at BLs Ds ⊢
    have hSs : (fun W : World => Blk W (b1) 57 [.int .i64 2, .int .i64 1, .string Val.e] ∧ True) ws := ⟨Ds.out.blk (c := (b1, 57, [.int .i64 2, .int .i64 1, .string Val.e])) (by simp), trivial⟩
    have ones0 : ∀ W, (Blk W (b1) 57 [.int .i64 2, .int .i64 1, .string Val.e] ∧ True) → W.cell? ⟨b1, 0, none⟩ = some (.int .i64 2) := fun W hW => hW.1.cell 0 _ rfl
    have ones1 : ∀ W, (Blk W (b1) 57 [.int .i64 2, .int .i64 1, .string Val.e] ∧ True) → W.cell? ⟨b1, 1, none⟩ = some (.int .i64 1) := fun W hW => hW.1.cell 1 _ rfl
    have ones2 : ∀ W, (Blk W (b1) 57 [.int .i64 2, .int .i64 1, .string Val.e] ∧ True) → W.cell? ⟨b1, 2, none⟩ = some (.string Val.e) := fun W hW => hW.1.cell 2 _ rfl
    refine takeH 0 (oi := ⟨some 44, _, _, _, _, _⟩) (v := ?_) rfl (by kernel_rfl) (by kernel_rfl) (by kernel_rfl) (fun _ _ _ h => h) (Or.inl ⟨by rfl, ?hys20⟩) hSs ?rests20
    case hys20 => (intro W hW; (try dsimp only at hW); go_simp; try with_reducible rfl)
    try simp only [Act.put, List.setIfInBounds_toArray, List.set_cons_zero, List.set_cons_succ]
    refine takeH 2 (oi := ⟨some 46, _, _, _, _, _⟩) (v := ?_) rfl (by kernel_rfl) (by kernel_rfl) (by kernel_rfl) (fun _ _ _ h => h) (Or.inl ⟨by rfl, ?hys21⟩) hSs ?rests21
    case hys21 => (intro W hW; (try dsimp only at hW); go_simp; try with_reducible rfl)
    try simp only [Act.put, List.setIfInBounds_toArray, List.set_cons_zero, List.set_cons_succ]
    refine one (i := 1) (by kernel_rfl) ?_
    refine wpOp_wanted rfl (by rfl) fun K hK => ?_
    go_simp
    with_reducible refine (HS.out xB _).mono ?_
    rintro e ws22 ⟨rfl, hb⟩
    have Ds22 := Lib.hid (Ds.out.below hb)
    clear hb
    have Ss22 : (fun W : World => Blk W (b1) 57 [.int .i64 2, .int .i64 1, .string Val.e] ∧ True) ws22 := ⟨Ds22.out.blk (c := (b1, 57, [.int .i64 2, .int .i64 1, .string Val.e])) (by simp), trivial⟩
    refine hK _ _ ⟨Ss22, ?_⟩
    clear hK K
    try simp only [Act.put, List.setIfInBounds_toArray, List.set_cons_zero, List.set_cons_succ]
    refine one (i := 3) (by kernel_rfl) ?_
    refine wpOp_wanted rfl (by rfl) fun K hK => ?_
    go_simp
    with_reducible refine (Ds22.out.setTo (i := 0) rfl (strV xB) (intV 1) (by decide) (by omega) bl_1 rfl).mono ?_
    rintro e ws23 ⟨rfl, hh⟩
    have Ds23 := Lib.hid (hh)
    clear hh
    have Ss23 : (fun W : World => Blk W (b1) 57 [.int .i64 2, .int .i64 1, .string Val.e] ∧ True) ws23 := ⟨Ds23.out.blk (c := (b1, 57, [.int .i64 2, .int .i64 1, .string Val.e])) (by simp), trivial⟩
    refine hK _ _ ⟨Ss23, ?_⟩
    clear hK K
    try simp only [Act.put, List.setIfInBounds_toArray, List.set_cons_zero, List.set_cons_succ]
    refine wpAnyH_done (by kernel_rfl) ?_ _
    clear ones0 ones1 ones2
    go_upto_region 17 with fail
    have BLv : Below ws23.heap.size ws23 ({ ws23 with drawn := ws23.drawn + 1 } : World) := ⟨rfl, rfl, rfl, Nat.le_refl _, fun _ _ => rfl⟩
    have Dv := Lib.hid (Ds23.out.below BLv)
    refine wp_region_held (S := fun W => Blk W (b1) 57 [.int .i64 2, .int .i64 1, .string Val.e] ∧ True) (by kernel_rfl) ?_
    generalize ({ ws23 with drawn := ws23.drawn + 1 } : World) = wv at BLv Dv ⊢
    have hSv : (fun W : World => Blk W (b1) 57 [.int .i64 2, .int .i64 1, .string Val.e] ∧ True) wv := ⟨Dv.out.blk (c := (b1, 57, [.int .i64 2, .int .i64 1, .string Val.e])) (by simp), trivial⟩
    have onev0 : ∀ W, (Blk W (b1) 57 [.int .i64 2, .int .i64 1, .string Val.e] ∧ True) → W.cell? ⟨b1, 0, none⟩ = some (.int .i64 2) := fun W hW => hW.1.cell 0 _ rfl
    have onev1 : ∀ W, (Blk W (b1) 57 [.int .i64 2, .int .i64 1, .string Val.e] ∧ True) → W.cell? ⟨b1, 1, none⟩ = some (.int .i64 1) := fun W hW => hW.1.cell 1 _ rfl
    have onev2 : ∀ W, (Blk W (b1) 57 [.int .i64 2, .int .i64 1, .string Val.e] ∧ True) → W.cell? ⟨b1, 2, none⟩ = some (.string Val.e) := fun W hW => hW.1.cell 2 _ rfl
    refine takeH 0 (oi := ⟨some 48, _, _, _, _, _⟩) (v := ?_) rfl (by kernel_rfl) (by kernel_rfl) (by kernel_rfl) (fun _ _ _ h => h) (Or.inl ⟨by rfl, ?hyv24⟩) hSv ?restv24
    case hyv24 => (intro W hW; (try dsimp only at hW); go_simp; try with_reducible rfl)
    try simp only [Act.put, List.setIfInBounds_toArray, List.set_cons_zero, List.set_cons_succ]
    refine takeH 2 (oi := ⟨some 50, _, _, _, _, _⟩) (v := ?_) rfl (by kernel_rfl) (by kernel_rfl) (by kernel_rfl) (fun _ _ _ h => h) (Or.inl ⟨by rfl, ?hyv25⟩) hSv ?restv25
    case hyv25 => (intro W hW; (try dsimp only at hW); go_simp; try with_reducible rfl)
    try simp only [Act.put, List.setIfInBounds_toArray, List.set_cons_zero, List.set_cons_succ]
    refine one (i := 1) (by kernel_rfl) ?_
    refine wpOp_wanted rfl (by rfl) fun K hK => ?_
    go_simp
    with_reducible refine (HS.out yB _).mono ?_
    rintro e wv26 ⟨rfl, hb⟩
    have Dv26 := Lib.hid (Dv.out.below hb)
    clear hb
    have Sv26 : (fun W : World => Blk W (b1) 57 [.int .i64 2, .int .i64 1, .string Val.e] ∧ True) wv26 := ⟨Dv26.out.blk (c := (b1, 57, [.int .i64 2, .int .i64 1, .string Val.e])) (by simp), trivial⟩
    refine hK _ _ ⟨Sv26, ?_⟩
    clear hK K
    try simp only [Act.put, List.setIfInBounds_toArray, List.set_cons_zero, List.set_cons_succ]
    refine one (i := 3) (by kernel_rfl) ?_
    refine wpOp_wanted rfl (by rfl) fun K hK => ?_
    go_simp
    with_reducible refine (Dv26.out.setTo (i := 0) rfl (strV yB) (intV 1) (by decide) (by omega) bl_2 rfl).mono ?_
    rintro e wv27 ⟨rfl, hh⟩
    have Dv27 := Lib.hid (hh)
    clear hh
    have Sv27 : (fun W : World => Blk W (b1) 57 [.int .i64 2, .int .i64 1, .string Val.e] ∧ True) wv27 := ⟨Dv27.out.blk (c := (b1, 57, [.int .i64 2, .int .i64 1, .string Val.e])) (by simp), trivial⟩
    refine hK _ _ ⟨Sv27, ?_⟩
    clear hK K
    try simp only [Act.put, List.setIfInBounds_toArray, List.set_cons_zero, List.set_cons_succ]
    refine wpAnyH_done (by kernel_rfl) ?_ _
    clear onev0 onev1 onev2
    go_upto_region 19 with (go_at_call 64; (with_reducible refine (Dv27.out.mode (i := 0) rfl).mono ?_); rintro e w12 ⟨rfl, rfl⟩)
    have BLx : Below wv27.heap.size wv27 ({ wv27 with drawn := wv27.drawn + 1 } : World) := ⟨rfl, rfl, rfl, Nat.le_refl _, fun _ _ => rfl⟩
    have Dx := Lib.hid (Dv27.out.below BLx)
    refine wp_region_held (S := fun W => Blk W (b1) 57 [.int .i64 2, .int .i64 1, .string Val.e] ∧ True) (by kernel_rfl) ?_
    generalize ({ wv27 with drawn := wv27.drawn + 1 } : World) = wx at BLx Dx ⊢
    have hSx : (fun W : World => Blk W (b1) 57 [.int .i64 2, .int .i64 1, .string Val.e] ∧ True) wx := ⟨Dx.out.blk (c := (b1, 57, [.int .i64 2, .int .i64 1, .string Val.e])) (by simp), trivial⟩
    have onex0 : ∀ W, (Blk W (b1) 57 [.int .i64 2, .int .i64 1, .string Val.e] ∧ True) → W.cell? ⟨b1, 0, none⟩ = some (.int .i64 2) := fun W hW => hW.1.cell 0 _ rfl
    have onex1 : ∀ W, (Blk W (b1) 57 [.int .i64 2, .int .i64 1, .string Val.e] ∧ True) → W.cell? ⟨b1, 1, none⟩ = some (.int .i64 1) := fun W hW => hW.1.cell 1 _ rfl
    have onex2 : ∀ W, (Blk W (b1) 57 [.int .i64 2, .int .i64 1, .string Val.e] ∧ True) → W.cell? ⟨b1, 2, none⟩ = some (.string Val.e) := fun W hW => hW.1.cell 2 _ rfl
    refine takeH 0 (oi := ⟨some 54, _, _, _, _, _⟩) (v := ?_) rfl (by kernel_rfl) (by kernel_rfl) (by kernel_rfl) (fun _ _ _ h => h) (Or.inl ⟨by rfl, ?hyx28⟩) hSx ?restx28
    case hyx28 => (intro W hW; (try dsimp only at hW); go_simp; try with_reducible rfl)
    try simp only [Act.put, List.setIfInBounds_toArray, List.set_cons_zero, List.set_cons_succ]
    refine takeH 2 (oi := ⟨some 56, _, _, _, _, _⟩) (v := ?_) rfl (by kernel_rfl) (by kernel_rfl) (by kernel_rfl) (fun _ _ _ h => h) (Or.inl ⟨by rfl, ?hyx29⟩) hSx ?restx29
    case hyx29 => (intro W hW; (try dsimp only at hW); go_simp; try with_reducible rfl)
    try simp only [Act.put, List.setIfInBounds_toArray, List.set_cons_zero, List.set_cons_succ]
    refine one (i := 1) (by kernel_rfl) ?_
    refine wpOp_wanted rfl (by rfl) fun K hK => ?_
    go_simp
    with_reducible refine (HBO.out _).mono ?_
    rintro e wx30 ⟨rfl, hb⟩
    have Dx30 := Lib.hid (Dx.out.below hb)
    clear hb
    have Sx30 : (fun W : World => Blk W (b1) 57 [.int .i64 2, .int .i64 1, .string Val.e] ∧ True) wx30 := ⟨Dx30.out.blk (c := (b1, 57, [.int .i64 2, .int .i64 1, .string Val.e])) (by simp), trivial⟩
    refine hK _ _ ⟨Sx30, ?_⟩
    clear hK K
    try simp only [Act.put, List.setIfInBounds_toArray, List.set_cons_zero, List.set_cons_succ]
    refine one (i := 3) (by kernel_rfl) ?_
    refine wpOp_wanted rfl (by rfl) fun K hK => ?_
    go_simp
    with_reducible refine (Dx30.out.setTo (i := 0) rfl ⟨1, 1, Val.e⟩ (intV 1) (by decide) (by omega) bl_3 rfl).mono ?_
    rintro e wx31 ⟨rfl, hh⟩
    have Dx31 := Lib.hid (hh)
    clear hh
    have Sx31 : (fun W : World => Blk W (b1) 57 [.int .i64 2, .int .i64 1, .string Val.e] ∧ True) wx31 := ⟨Dx31.out.blk (c := (b1, 57, [.int .i64 2, .int .i64 1, .string Val.e])) (by simp), trivial⟩
    refine hK _ _ ⟨Sx31, ?_⟩
    clear hK K
    try simp only [Act.put, List.setIfInBounds_toArray, List.set_cons_zero, List.set_cons_succ]
    refine wpAnyH_done (by kernel_rfl) ?_ _
    clear onex0 onex1 onex2
    have hbk := Dx31.out.blk (c := (b1, 57, [.int .i64 2, .int .i64 1, .string Val.e])) (by simp)
    have c0 := hbk.cell 0 _ rfl
    have c1 := hbk.cell 1 _ rfl
    have c2 := hbk.cell 2 _ rfl
    clear hbk
    go_wp2_with (first
      | (go_at_call 63; (with_reducible refine (tset_nil (intV 1) (intV 1) _).mono ?_); rintro e w13 ⟨rfl, hb⟩; have D13 := Lib.hid (Dx31.out.below hb); clear hb c0 c1 c2)
      | (go_at_call 64; (with_reducible refine (D13.out.mode (i := 0) rfl).mono ?_); rintro e w14 ⟨rfl, rfl⟩)
      | (go_at_call 65; (with_reducible refine (D13.out.shape (i := 0) rfl).mono ?_); rintro e w15 ⟨rfl, rfl⟩))
    go_ret
    exact ⟨rfl, D9.out.bel.trans (D13.out.bel.mono D9.out.bel.size)⟩
end Go.Proofs.Ytmjfmfelbmbniaa
