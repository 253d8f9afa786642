/- Layer 14: the law TabKeeps. -/
import Derived.Test.YtmjfmfelbmbniaaTbH
namespace Go.Proofs.Ytmjfmfelbmbniaa
open Go.RowKit Go.Maps HK ShM
set_option linter.unusedVariables false
set_option linter.unusedSimpArgs false
open RH
theorem look_none (k : Val) : lookT al0.A al0.R k = Val.nil := by unfold lookT; split <;> rfl
theorem TL.lenb {w0 w : World} {Zp : Nat → Prop} {q : Option Addr} {D F : Int} {T : List Sh} {N i tb : Nat} {mp : Value} {s : Tab} {tabs : List T3} {L : List (Nat × TypeId × List Value)} (h : TL w0 w Zp q D F T N tabs L) (hi : tabs[i]? = some (tb, mp, s)) : s.A.length ≤ N := by
  obtain ⟨B, X, h1, h2, h3, h4⟩ := h.at hi
  have := h2.1
  omega
set_option maxHeartbeats 16000000 in
set_option maxRecDepth 20000 in
theorem tkeeps_walk (deep fan : Int) (lv : Value) (l : List OpT) (y : Val) (w : World) (hl : RdT14 w lv l) (h80 : l.length * 80 ≤ 140737488351232) (hy : y.s.size ≤ 140737488355328) : Calls Try.prog 17 #[.agg #[.int .i64 deep, .int .i64 fan, lv, .int .i64 y.k, .int .i64 y.n, .string y.s]] w fun e w' => e = .returned (.bool true) ∧ Below w.heap.size w w' := by
  have HI := Lib.hid (fun (n : Int) (W : World) => ofInt_calls n W)
  have HL := Lib.hid hl
  have HLN := Lib.hid h80
  have HAL := Lib.hid (fun (W : World) => talive_calls W)
  have HGR := Lib.hid (fun (v : Value) (l : List OpT) (W : World) (h : RdT14 W v l) => tgreat_calls v l W h)
  have HYM : Hid (y.s.size ≤ maxLen) := Lib.hid (Nat.le_trans hy (by decide))
  have HY := Lib.hid hy
  obtain ⟨dp, hdp⟩ : ∃ d, d = min (max deep 0) 64 := ⟨_, rfl⟩
  obtain ⟨fn, hfn⟩ : ∃ d, d = min (max fan 0) 64 := ⟨_, rfl⟩
  have HNT := Lib.hid (fun (W : World) => show Calls Try.prog 61 #[.int .i64 deep, .int .i64 fan, .slice none 0 0] W fun e w' => ∃ sb, e = .returned (.pointer (some ⟨sb, 0, none⟩)) ∧ TL W w' (fun _ => False) (some ⟨sb, 0, none⟩) dp fn T0 0 [] [] ∧ Below W.heap.size W w' from by
    rw [hdp, hfn]
    exact TL.newTree deep fan (.slice none 0 0) [] W W (Below.refl _ _) (RdS.none W) (fun s hs => by cases hs) (fun b hb => hb.elim))
  clear hdp hfn hy h80
  obtain ⟨la, lc, hlv, hlc1, hlc2, _⟩ := hl
  subst hlv
  obtain ⟨n2, hn2⟩ : ∃ n, n = l.length := ⟨_, rfl⟩
  have E2 := Lib.hid hn2
  rw [← hn2] at HL hlc1 ⊢
  have hlc3 : lc ≤ 9223372036854775807 := hlc2
  clear hn2 hlc2
  obtain ⟨y1, y2, y3⟩ := y
  have D0 : Hid (OB0 w (w.alloc (.cells #[.int .i64 deep, .int .i64 fan, .slice la n2 lc, .int .i64 y1, .int .i64 y2, .string y3] 133)) [(w.heap.size, 133, [.int .i64 deep, .int .i64 fan, .slice la n2 lc, .int .i64 y1, .int .i64 y2, .string y3])]) := Lib.hid (OB0.alloc ⟨Below.refl _ _, fun c hc => by cases hc⟩ _ 133)
  go_enter Try.func17, Try.ntmps17
  go_upto_region 1 with fail
  obtain ⟨bx, hbx⟩ : ∃ b, b = w.heap.size := ⟨_, rfl⟩
  obtain ⟨w1, hw1⟩ : ∃ W, W = w.alloc (.cells #[.int .i64 deep, .int .i64 fan, .slice la n2 lc, .int .i64 y1, .int .i64 y2, .string y3] 133) := ⟨_, rfl⟩
  rw [← hbx, ← hw1] at D0
  rw [← hbx, ← hw1]
  have HBXN := Lib.hid (Nat.le_of_eq hbx.symm)
  clear hbx hw1
  go_wp2_with fail
  refine (HAL.out _).mono ?_
  rintro e w2 ⟨rfl, hb⟩
  have D1 := Lib.hid (D0.out.below hb)
  clear hb D0
  go_upto_region 3 with fail
  have BLa : Below w2.heap.size w2 ({ w2 with drawn := w2.drawn + 1 } : World) := ⟨rfl, rfl, rfl, Nat.le_refl _, fun _ _ => rfl⟩
  have Da := Lib.hid (D1.out.below BLa)
  refine wp_region_held (S := fun W : World => Blk W (bx) 133 [.int .i64 deep, .int .i64 fan, .slice la n2 lc, .int .i64 y1, .int .i64 y2, .string y3] ∧ True) (by kernel_rfl) ?_
  generalize ({ w2 with drawn := w2.drawn + 1 } : World) = wa at BLa Da ⊢
  have hSa : (fun W : World => Blk W (bx) 133 [.int .i64 deep, .int .i64 fan, .slice la n2 lc, .int .i64 y1, .int .i64 y2, .string y3] ∧ True) wa := ⟨Da.out.blk (c := (bx, 133, [.int .i64 deep, .int .i64 fan, .slice la n2 lc, .int .i64 y1, .int .i64 y2, .string y3])) (by simp), trivial⟩
  have bca0 : ∀ W : World, (Blk W (bx) 133 [.int .i64 deep, .int .i64 fan, .slice la n2 lc, .int .i64 y1, .int .i64 y2, .string y3] ∧ True) → W.cell? ⟨bx, 0, none⟩ = some (.int .i64 deep) := fun W hW => hW.1.cell 0 _ rfl
  have bca1 : ∀ W : World, (Blk W (bx) 133 [.int .i64 deep, .int .i64 fan, .slice la n2 lc, .int .i64 y1, .int .i64 y2, .string y3] ∧ True) → W.cell? ⟨bx, 1, none⟩ = some (.int .i64 fan) := fun W hW => hW.1.cell 1 _ rfl
  have bca2 : ∀ W : World, (Blk W (bx) 133 [.int .i64 deep, .int .i64 fan, .slice la n2 lc, .int .i64 y1, .int .i64 y2, .string y3] ∧ True) → W.cell? ⟨bx, 2, none⟩ = some (.slice la n2 lc) := fun W hW => hW.1.cell 2 _ rfl
  have bca3 : ∀ W : World, (Blk W (bx) 133 [.int .i64 deep, .int .i64 fan, .slice la n2 lc, .int .i64 y1, .int .i64 y2, .string y3] ∧ True) → W.cell? ⟨bx, 3, none⟩ = some (.int .i64 y1) := fun W hW => hW.1.cell 3 _ rfl
  have bca4 : ∀ W : World, (Blk W (bx) 133 [.int .i64 deep, .int .i64 fan, .slice la n2 lc, .int .i64 y1, .int .i64 y2, .string y3] ∧ True) → W.cell? ⟨bx, 4, none⟩ = some (.int .i64 y2) := fun W hW => hW.1.cell 4 _ rfl
  have bca5 : ∀ W : World, (Blk W (bx) 133 [.int .i64 deep, .int .i64 fan, .slice la n2 lc, .int .i64 y1, .int .i64 y2, .string y3] ∧ True) → W.cell? ⟨bx, 5, none⟩ = some (.string y3) := fun W hW => hW.1.cell 5 _ rfl
  refine takeH 0 (oi := ⟨some 16, _, _, _, _, _⟩) (v := ?_) rfl (by kernel_rfl) (by kernel_rfl) (by kernel_rfl) (fun _ _ _ h => h) (Or.inl ⟨by rfl, ?_⟩) hSa ?_
  rotate_left
  · (intro W hW; (try dsimp only at hW); go_simp; try with_reducible rfl)
  try (conv in (Act.put _ _ _) => simp only [Act.put, List.setIfInBounds_toArray, List.set_cons_zero, List.set_cons_succ])
  refine takeH 1 (oi := ⟨some 17, _, _, _, _, _⟩) (v := ?_) rfl (by kernel_rfl) (by kernel_rfl) (by kernel_rfl) (fun _ _ _ h => h) (Or.inl ⟨by rfl, ?_⟩) hSa ?_
  rotate_left
  · (intro W hW; (try dsimp only at hW); go_simp; try with_reducible rfl)
  try (conv in (Act.put _ _ _) => simp only [Act.put, List.setIfInBounds_toArray, List.set_cons_zero, List.set_cons_succ])
  refine takeH 2 (oi := ⟨some 18, _, _, _, _, _⟩) (v := ?_) rfl (by kernel_rfl) (by kernel_rfl) (by kernel_rfl) (fun _ _ _ h => h) (Or.inl ⟨by rfl, ?_⟩) hSa ?_
  rotate_left
  · (intro W hW; (try dsimp only at hW); go_simp; try with_reducible rfl)
  try (conv in (Act.put _ _ _) => simp only [Act.put, List.setIfInBounds_toArray, List.set_cons_zero, List.set_cons_succ])
  refine takeH 3 (oi := ⟨some 19, _, _, _, _, _⟩) (v := ?_) rfl (by kernel_rfl) (by kernel_rfl) (by kernel_rfl) (fun _ _ _ h => h) (Or.inl ⟨by rfl, ?_⟩) hSa ?_
  rotate_left
  · (intro W hW; (try dsimp only at hW); go_simp; try with_reducible rfl)
  try (conv in (Act.put _ _ _) => simp only [Act.put, List.setIfInBounds_toArray, List.set_cons_zero, List.set_cons_succ])
  refine takeH 4 (oi := ⟨some 20, _, _, _, _, _⟩) (v := ?_) rfl (by kernel_rfl) (by kernel_rfl) (by kernel_rfl) (fun _ _ _ h => h) (Or.inl ⟨by rfl, ?_⟩) hSa ?_
  rotate_left
  · (intro W hW; (try dsimp only at hW); go_simp; try with_reducible rfl)
  try (conv in (Act.put _ _ _) => simp only [Act.put, List.setIfInBounds_toArray, List.set_cons_zero, List.set_cons_succ])
  refine takeH 5 (oi := ⟨some 21, _, _, _, _, _⟩) (v := ?_) rfl (by kernel_rfl) (by kernel_rfl) (by kernel_rfl) (fun _ _ _ h => h) (Or.inl ⟨by rfl, ?_⟩) hSa ?_
  rotate_left
  · (intro W hW; (try dsimp only at hW); go_simp; try with_reducible rfl)
  try (conv in (Act.put _ _ _) => simp only [Act.put, List.setIfInBounds_toArray, List.set_cons_zero, List.set_cons_succ])
  refine takeH 6 (oi := ⟨some 22, _, _, _, _, _⟩) (v := ?_) rfl (by kernel_rfl) (by kernel_rfl) (by kernel_rfl) (fun _ _ _ h => h) (Or.inl ⟨by rfl, ?_⟩) hSa ?_
  rotate_left
  · (intro W hW; (try dsimp only at hW); go_simp; try with_reducible rfl)
  try (conv in (Act.put _ _ _) => simp only [Act.put, List.setIfInBounds_toArray, List.set_cons_zero, List.set_cons_succ])
  refine takeH 7 (oi := ⟨some 23, _, _, _, _, _⟩) (v := ?_) rfl (by kernel_rfl) (by kernel_rfl) (by kernel_rfl) (fun _ _ _ h => h) (Or.inl ⟨by rfl, ?_⟩) hSa ?_
  rotate_left
  · (intro W hW; (try dsimp only at hW); go_simp; try with_reducible rfl)
  try (conv in (Act.put _ _ _) => simp only [Act.put, List.setIfInBounds_toArray, List.set_cons_zero, List.set_cons_succ])
  refine one (i := 8) (by kernel_rfl) ?_
  refine wpOp_wanted rfl (by rfl) fun K hK => ?_
  go_simp
  have Da9' := Lib.hid (Da.out.alloc [.int .i64 0, .int .i64 0, .string Val.e] 57)
  obtain ⟨ab, hab⟩ : ∃ b, b = wa.heap.size := ⟨_, rfl⟩
  obtain ⟨wa9, hwa9⟩ : ∃ W, W = wa.alloc (.cells #[.int .i64 0, .int .i64 0, .string Val.e] 57) := ⟨_, rfl⟩
  rw [← hab, ← hwa9] at Da9'
  rw [← hab, ← hwa9]
  have Da9 := Da9'
  have Hab := Lib.hid (show ab = wa.heap.size from hab)
  clear hwa9 hab Da9'
  have Sa9 : (fun W : World => Blk W (bx) 133 [.int .i64 deep, .int .i64 fan, .slice la n2 lc, .int .i64 y1, .int .i64 y2, .string y3] ∧ True) wa9 := ⟨Da9.out.blk (c := (bx, 133, [.int .i64 deep, .int .i64 fan, .slice la n2 lc, .int .i64 y1, .int .i64 y2, .string y3])) (by simp), trivial⟩
  refine hK _ _ ⟨Sa9, ?_⟩
  clear hK K
  try (conv in (Act.put _ _ _) => simp only [Act.put, List.setIfInBounds_toArray, List.set_cons_zero, List.set_cons_succ])
  refine takeH 9 (oi := ⟨some 3, _, _, _, _, _⟩) (v := ?_) rfl (by kernel_rfl) (by kernel_rfl) (by kernel_rfl) (fun _ _ _ h => h) (Or.inl ⟨by rfl, ?_⟩) Sa9 ?_
  rotate_left
  · (intro W hW; (try dsimp only at hW); go_simp; try with_reducible rfl)
  try (conv in (Act.put _ _ _) => simp only [Act.put, List.setIfInBounds_toArray, List.set_cons_zero, List.set_cons_succ])
  refine takeH 10 (oi := ⟨some 4, _, _, _, _, _⟩) (v := ?_) rfl (by kernel_rfl) (by kernel_rfl) (by kernel_rfl) (fun _ _ _ h => h) (Or.inl ⟨by rfl, ?_⟩) Sa9 ?_
  rotate_left
  · (intro W hW; (try dsimp only at hW); go_simp; try with_reducible rfl)
  try (conv in (Act.put _ _ _) => simp only [Act.put, List.setIfInBounds_toArray, List.set_cons_zero, List.set_cons_succ])
  refine takeH 11 (oi := ⟨some 5, _, _, _, _, _⟩) (v := ?_) rfl (by kernel_rfl) (by kernel_rfl) (by kernel_rfl) (fun _ _ _ h => h) (Or.inl ⟨by rfl, ?_⟩) Sa9 ?_
  rotate_left
  · (intro W hW; (try dsimp only at hW); go_simp; try with_reducible rfl)
  try (conv in (Act.put _ _ _) => simp only [Act.put, List.setIfInBounds_toArray, List.set_cons_zero, List.set_cons_succ])
  refine one (i := 12) (by kernel_rfl) ?_
  have HABN : Hid (bx < ab ∧ w.heap.size ≤ ab) := Lib.hid (by have h1 := Hab.out; have h2 : bx < wa.heap.size := (Da.out.blk List.mem_cons_self).lt; have h4 := HBXN.out; omega)
  have hbk := Da9.out.blk List.mem_cons_self
  have s0 := hbk.cell 0 _ rfl
  have s1 := hbk.cell 1 _ rfl
  have s2 := hbk.cell 2 _ rfl
  have z0 := hbk.frozen 0
  have z1 := hbk.frozen 1
  have z2 := hbk.frozen 2
  clear hbk
  refine wpOp_wanted rfl (by rfl) fun K hK => ?_
  go_simp
  clear s0 s1 s2 z0 z1 z2
  obtain ⟨wa13, hwa13⟩ : ∃ W, W = (((wa9.setCell ⟨ab, 0, none⟩ (.int .i64 y1)).setCell ⟨ab, 1, none⟩ (.int .i64 y2)).setCell ⟨ab, 2, none⟩ (.string y3)) := ⟨_, rfl⟩
  have Da13 : Hid (OB0 w wa13 [(ab, 57, [.int .i64 y1, .int .i64 y2, .string y3]), (bx, 133, [.int .i64 deep, .int .i64 fan, .slice la n2 lc, .int .i64 y1, .int .i64 y2, .string y3])]) := Lib.hid (by rw [hwa13]; exact (((Da9.out.stored HABN.out.2 (fun c hc => by simp only [List.mem_singleton] at hc; rw [hc]; have h := HABN.out; dsimp only; omega) 0 (.int .i64 y1)).stored HABN.out.2 (fun c hc => by simp only [List.mem_singleton] at hc; rw [hc]; have h := HABN.out; dsimp only; omega) 1 (.int .i64 y2)).stored HABN.out.2 (fun c hc => by simp only [List.mem_singleton] at hc; rw [hc]; have h := HABN.out; dsimp only; omega) 2 (.string y3)))
  rw [← hwa13]
  clear hwa13
  have Sa13 : (fun W : World => Blk W (bx) 133 [.int .i64 deep, .int .i64 fan, .slice la n2 lc, .int .i64 y1, .int .i64 y2, .string y3] ∧ True) wa13 := ⟨Da13.out.blk (c := (bx, 133, [.int .i64 deep, .int .i64 fan, .slice la n2 lc, .int .i64 y1, .int .i64 y2, .string y3])) (by simp), trivial⟩
  refine hK _ _ ⟨Sa13, ?_⟩
  clear hK K
  try (conv in (Act.put _ _ _) => simp only [Act.put, List.setIfInBounds_toArray, List.set_cons_zero, List.set_cons_succ])
  refine wpAnyH_done (by kernel_rfl) ?_ _
  clear bca0 bca1 bca2 bca3 bca4 bca5
  have D3 := Lib.hid Da13.out
  generalize wa13 = w3 at D3 ⊢
  have hbk := D3.out.blk List.mem_cons_self
  have x0 := hbk.cell 0 _ rfl
  have x1 := hbk.cell 1 _ rfl
  have x2 := hbk.cell 2 _ rfl
  clear hbk
  have HB3 := Lib.hid (D3.out.bel.alloc D3.out.bel.size (.cells #[.int .i64 0, .int .i64 0, .int .i64 y1, .int .i64 y2, .string y3, .int .i64 0, .int .i64 0, .string ⟨#[]⟩] 130))
  obtain ⟨va, w4, r2, ho2, hb2⟩ := run_append_opsT (w3.alloc (.cells #[.int .i64 0, .int .i64 0, .int .i64 y1, .int .i64 y2, .string y3, .int .i64 0, .int .i64 0, .string ⟨#[]⟩] 130)) w3.heap.size w3.heap.size ⟨0, 0, ⟨y1, y2, y3⟩, Val.nil⟩ (World.ownsRow_lit w3 #[.int .i64 0, .int .i64 0, .int .i64 y1, .int .i64 y2, .string y3, .int .i64 0, .int .i64 0, .string ⟨#[]⟩] 1 (Nat.le_refl _) (by decide) rfl) ⟨HY.out, Nat.zero_le _⟩ (.slice la n2 lc) l (HL.out.below HB3.out (Nat.le_refl _)) HLN.out (by simp)
  have R2 := Lib.hid r2
  have HO2 := Lib.hid ho2
  have hb34 := (((Below.refl w3.heap.size w3).alloc (Nat.le_refl _) (.cells #[.int .i64 0, .int .i64 0, .int .i64 y1, .int .i64 y2, .string y3, .int .i64 0, .int .i64 0, .string ⟨#[]⟩] 130))).trans hb2
  have D4 := Lib.hid (D3.out.below hb34)
  clear r2 ho2 hb2 hb34
  go_wp2_with (at_builtin; refine RG.wpList_append_run (v := .slice (some ⟨w3.heap.size, 0, none⟩) 1 1) (v2 := .slice la n2 lc) rfl _ _ 124 124 rfl rfl rfl R2.out ?_; try simp only [Act.put, List.setIfInBounds_toArray, List.set_cons_zero, List.set_cons_succ])
  refine (HGR.out _ _ _ HO2.out).mono ?_
  rintro e wB ⟨gr, rfl, hgr, hb⟩
  have DB := Lib.hid (D4.out.below hb)
  have HGN := Lib.hid hgr
  clear hb hgr x0 x1 x2
  cases gr with
  | true =>
    go_wp2
    go_ret
    exact ⟨rfl, DB.out.bel⟩
  | false =>
    have hn4 : n2 + 1 ≤ 400 := by have := HGN.out rfl; rw [List.length_cons] at this; rw [E2.out]; exact this
    have HN4 := Lib.hid hn4
    have HASK := Lib.hid (DB.out.blk List.mem_cons_self)
    have HNN := Lib.hid (HNT.out wB)
    clear HGN hn4
    go_upto_region 7 with (first
      | (go_at_call 61; (with_reducible refine HNN.out.mono ?_); rintro e w6 ⟨sb, rfl, h1, hb⟩; have D6 := Lib.hid (h1.hold (HASK.out.of (hb.block _ HASK.out.lt)) HASK.out.lt (fun hz => hz.elim)); clear h1 hb; have HNW := Lib.hid (D6.out.new rfl))
      | (go_at_call 62; (with_reducible refine HNW.out.mono ?_); rintro e w7 ⟨tb, rfl, h1, _⟩; have D7 := Lib.hid h1; clear h1 HNW))
    go_upto_region 8 with fail
    have D8 := Lib.hid (D7.out.alloc [.int .i64 0, .int .i64 0, .string Val.e] 57)
    obtain ⟨wb, hwb⟩ : ∃ b, b = w7.heap.size := ⟨_, rfl⟩
    obtain ⟨w8, hw8⟩ : ∃ W, W = w7.alloc (.cells #[.int .i64 0, .int .i64 0, .string Val.e] 57) := ⟨_, rfl⟩
    have HWB : Hid (wB.heap.size ≤ wb ∧ ab < wb) := Lib.hid (by have h1 := D7.out.bel.size; have h2 : ab < wB.heap.size := HASK.out.lt; omega)
    have D8 : Hid (TL wB w8 (fun _ => False) (some ⟨sb, 0, none⟩) dp fn T0 0 [(tb, .pointer none, al0)] [(wb, 57, [.int .i64 0, .int .i64 0, .string Val.e]), (ab, 57, [.int .i64 y1, .int .i64 y2, .string y3])]) := Lib.hid (by rw [hw8, hwb]; exact D8.out)
    rw [← hwb, ← hw8]
    clear hwb hw8 D7 D6 D4 D3
    go_wp2
    go_loopw [10, 11, 12, 13, 37] (fun _ _ _ _ ii wr => Hid (∃ (k : Nat) (T : List Sh) (s : Tab) (g1 g2 : Int) (g3 : ByteArray), k ≤ n2 ∧ ii = .int .i64 k ∧ TOK s ∧ (∀ p ∈ s.R, p.1.own = p.1) ∧ tgetM s ⟨y1, y2, y3⟩ = ⟨g1, g2, g3⟩ ∧ Hid (TL wB wr (fun _ => False) (some ⟨sb, 0, none⟩) dp fn T k [(tb, .pointer none, s)] [(wb, 57, [.int .i64 g1, .int .i64 g2, .string g3]), (ab, 57, [.int .i64 y1, .int .i64 y2, .string y3])]))) (fun _ _ _ _ ii _ => n2 - (intOf ii).toNat)
    case atStart => exact Lib.hid ⟨0, T0, al0, 0, 0, Val.e, by omega, rfl, TOK.start, (fun p hp => by cases hp), by rw [tget_look]; split; rfl; exact look_none _, D8⟩
    case round =>
      obtain ⟨k, T, s, g1, g2, g3, hk, rfl, htok, hko, hgt, hre⟩ := hrel.out
      have HTOK := Lib.hid htok
      have HKO := Lib.hid hko
      have HGT0 := Lib.hid hgt
      have HOW := Lib.hid (hre.out.ownT (i := 0) rfl)
      clear hrel htok hko hgt
      by_cases hlt : k < n2
      · have hjl : k < l.length := by rw [← E2.out]; exact hlt
        obtain ⟨x, hx⟩ : ∃ x, l[k]? = some x := ⟨_, List.getElem?_eq_getElem hjl⟩
        have HC : ∀ j x, l[j]? = some x → (x.k.s.size ≤ 140737488355328 ∧ x.v.s.size ≤ 140737488355328) ∧ ∃ b off, la = some ⟨b, off, none⟩ ∧ ∀ i u, x.cells[i]? = some u → w.cell? ⟨b, off + j * 8 + i, none⟩ = some u := by
          obtain ⟨_, _, e, _, _, _, h⟩ := HL.out
          cases e
          exact h
        obtain ⟨⟨hs1, hs2⟩, b, off, hla, hcl⟩ := HC k x hx
        subst hla
        have hbw := DB.out.bel.trans (hre.out.bel.mono DB.out.bel.size)
        have hc := fun i u hu => (hbw.cell (World.block_lt_of_cell? w _ (hcl i u hu))).trans (hcl i u hu)
        obtain ⟨oc, on, ⟨k1, k2, k3⟩, ⟨v1, v2, v3⟩⟩ := x
        have u0 := hc 0 _ rfl
        have u1 := hc 1 _ rfl
        have u2 := hc 2 _ rfl
        have u3 := hc 3 _ rfl
        have u4 := hc 4 _ rfl
        have u5 := hc 5 _ rfl
        have u6 := hc 6 _ rfl
        have u7 := hc 7 _ rfl
        rw [Nat.add_zero] at u0
        have HKS : Hid (k3.size ≤ maxLen) := Lib.hid (Nat.le_trans hs1 (by decide))
        have HK1 : Hid (k ≤ 100000 ∧ k + 1 ≤ 100000) := Lib.hid (by have := HN4.out; omega)
        have D1' := Lib.hid (hre.out.alloc [.int .i64 oc, .int .i64 on, .int .i64 k1, .int .i64 k2, .string k3, .int .i64 v1, .int .i64 v2, .string v3] 130)
        have HOL := Lib.hid (show wb < wr.heap.size from (hre.out.blk List.mem_cons_self).lt)
        clear hc hcl hx hjl hs1 hs2 HC hbw
        go_upto_region 11 with fail
        clear u0 u1 u2 u3 u4 u5 u6 u7
        obtain ⟨ob, hob⟩ : ∃ b, b = wr.heap.size := ⟨_, rfl⟩
        obtain ⟨w9, hw9⟩ : ∃ W, W = wr.alloc (.cells #[.int .i64 oc, .int .i64 on, .int .i64 k1, .int .i64 k2, .string k3, .int .i64 v1, .int .i64 v2, .string v3] 130) := ⟨_, rfl⟩
        have D9 : Hid (TL wB w9 (fun _ => False) (some ⟨sb, 0, none⟩) dp fn T k [(tb, .pointer none, s)] [(ob, 130, [.int .i64 oc, .int .i64 on, .int .i64 k1, .int .i64 k2, .string k3, .int .i64 v1, .int .i64 v2, .string v3]), (wb, 57, [.int .i64 g1, .int .i64 g2, .string g3]), (ab, 57, [.int .i64 y1, .int .i64 y2, .string y3])]) := Lib.hid (by rw [hw9, hob]; exact D1'.out)
        have HOL : Hid (wb < ob) := Lib.hid (by rw [hob]; exact HOL.out)
        rw [← hob, ← hw9]
        clear hob hw9 D1' hre
        have hbk := D9.out.blk (c := (ob, 130, [.int .i64 oc, .int .i64 on, .int .i64 k1, .int .i64 k2, .string k3, .int .i64 v1, .int .i64 v2, .string v3])) (by simp)
        have o0 := hbk.cell 0 _ rfl
        have o1 := hbk.cell 1 _ rfl
        have o2 := hbk.cell 2 _ rfl
        have o3 := hbk.cell 3 _ rfl
        have o4 := hbk.cell 4 _ rfl
        have o5 := hbk.cell 5 _ rfl
        have o6 := hbk.cell 6 _ rfl
        have o7 := hbk.cell 7 _ rfl
        clear hbk
        by_cases h1 : oc = 1
        · subst h1
          obtain ⟨⟨f, e0, s', T'⟩, hts⟩ : ∃ o, tsetM dp fn T s ⟨k1, k2, k3⟩ ⟨v1, v2, v3⟩ = o := ⟨_, rfl⟩
          have HSET := Lib.hid (D9.out.setTo (i := 0) rfl ⟨k1, k2, k3⟩ ⟨v1, v2, v3⟩ HKS.out HK1.out.1 hts rfl)
          have hcase : ((f = 0 ∧ e0 = 0 ∨ f = 1 ∧ e0 = 0) ∧ tgetM s' ⟨y1, y2, y3⟩ = if rawV ⟨k1, k2, k3⟩ ⟨y1, y2, y3⟩ then Val.own ⟨v1, v2, v3⟩ else ⟨g1, g2, g3⟩) ∧ TOK s' ∧ (∀ p ∈ s'.R, p.1.own = p.1) ∨ (f = 0 ∧ e0 = 15 ∧ tgetM s' ⟨y1, y2, y3⟩ = ⟨g1, g2, g3⟩) ∧ TOK s' ∧ (∀ p ∈ s'.R, p.1.own = p.1) := by
            cases hbd : Val.bad ⟨k1, k2, k3⟩ with
            | false =>
              have hls := look_set (D := dp) (F := fn) (T := T) HTOK.out HKO.out HOW.out.r (v := ⟨v1, v2, v3⟩) hbd
              have hkp := keepT (D := dp) (F := fn) (T := T) HTOK.out HKO.out HOW.out.r (v := ⟨v1, v2, v3⟩) hbd ⟨y1, y2, y3⟩
              rw [hts] at hls hkp
              rw [HGT0.out] at hkp
              refine .inl ⟨⟨?_, hkp⟩, hls.2.1, hls.2.2.1⟩
              rcases hls.2.2.2.2 with h | h
              · exact .inl ⟨h, hls.2.2.2.1⟩
              · exact .inr ⟨h, hls.2.2.2.1⟩
            | true =>
              rw [tset_isbad hbd] at hts
              injection hts with h1 h2 h3 h4
              subst h3
              exact .inr ⟨⟨h1.symm, h2.symm, HGT0.out⟩, HTOK.out, HKO.out⟩
          have HCA := Lib.hid hcase
          clear hts hcase
          go_upto_region 15 with (go_at_call 63; (with_reducible refine HSET.out.mono ?_); rintro e wa ⟨rfl, hh⟩; have D10 := Lib.hid hh; clear hh)
          have D10 : Hid (TL wB wa (fun _ => False) (some ⟨sb, 0, none⟩) dp fn T' (k + 1) [(tb, .pointer none, s')] [(ob, 130, [.int .i64 1, .int .i64 on, .int .i64 k1, .int .i64 k2, .string k3, .int .i64 v1, .int .i64 v2, .string v3]), (wb, 57, [.int .i64 g1, .int .i64 g2, .string g3]), (ab, 57, [.int .i64 y1, .int .i64 y2, .string y3])]) := D10
          clear HSET D9 o0 o1 o2 o3 o4 o5 o6 o7
          have HRW := Lib.hid (fun (W : World) => raw_calls ⟨k1, k2, k3⟩ ⟨y1, y2, y3⟩ W)
          have HOV := Lib.hid (fun (W : World) => own_calls ⟨v1, v2, v3⟩ W)
          obtain ⟨rw, hrw⟩ : ∃ b, rawV ⟨k1, k2, k3⟩ ⟨y1, y2, y3⟩ = b := ⟨_, rfl⟩
          obtain ⟨⟨p1, p2, p3⟩, hp⟩ : ∃ o, Val.own ⟨v1, v2, v3⟩ = o := ⟨_, rfl⟩
          rw [hrw] at HCA HRW
          rw [hp] at HCA HOV
          clear hrw hp
          have hbk := D10.out.blk (c := (ob, 130, [.int .i64 1, .int .i64 on, .int .i64 k1, .int .i64 k2, .string k3, .int .i64 v1, .int .i64 v2, .string v3])) (by simp)
          have o0 := hbk.cell 0 _ rfl
          have o1 := hbk.cell 1 _ rfl
          have o2 := hbk.cell 2 _ rfl
          have o3 := hbk.cell 3 _ rfl
          have o4 := hbk.cell 4 _ rfl
          have o5 := hbk.cell 5 _ rfl
          have o6 := hbk.cell 6 _ rfl
          have o7 := hbk.cell 7 _ rfl
          have hbk := D10.out.blk (c := (ab, 57, [.int .i64 y1, .int .i64 y2, .string y3])) (by simp)
          have y0 := hbk.cell 0 _ rfl
          have y1c := hbk.cell 1 _ rfl
          have y2c := hbk.cell 2 _ rfl
          clear hbk
          have HC2 := HCA.out
          clear HCA
          rcases HC2 with ⟨⟨hfe, hkp⟩, hto, hko⟩ | ⟨⟨rfl, rfl, hkp⟩, hto, hko⟩
          focus
            have HTO := Lib.hid hto
            have HKO2 := Lib.hid hko
            have HKP := Lib.hid hkp
            clear hto hko hkp
            rcases hfe with ⟨rfl, rfl⟩ | ⟨rfl, rfl⟩
            all_goals
              cases rw
              focus
                go_upto_region 19 with (go_at_call 58; (with_reducible refine (HRW.out _).mono ?_); rintro e wd ⟨rfl, hb⟩; have DW := Lib.hid (D10.out.below hb); clear hb)
                have HKQ : Hid (tgetM s' ⟨y1, y2, y3⟩ = ⟨g1, g2, g3⟩) := Lib.hid HKP.out
                obtain ⟨h1, h2, h3, HKR, DW⟩ : ∃ (h1 h2 : Int) (h3 : ByteArray), Hid (tgetM s' ⟨y1, y2, y3⟩ = ⟨h1, h2, h3⟩) ∧ Hid (TL wB wd (fun _ => False) (some ⟨sb, 0, none⟩) dp fn T' (k + 1) [(tb, .pointer none, s')] [(ob, 130, [.int .i64 1, .int .i64 on, .int .i64 k1, .int .i64 k2, .string k3, .int .i64 v1, .int .i64 v2, .string v3]), (wb, 57, [.int .i64 h1, .int .i64 h2, .string h3]), (ab, 57, [.int .i64 y1, .int .i64 y2, .string y3])]) := ⟨g1, g2, g3, HKQ, DW⟩
                clear HKQ HKP
              rotate_left
              focus
                go_upto_region 19 with (first
                  | (go_at_call 58; (with_reducible refine (HRW.out _).mono ?_); rintro e wc ⟨rfl, hb⟩; have DC := Lib.hid (D10.out.below hb); clear hb; have hbk := DC.out.blk (c := (ob, 130, [.int .i64 1, .int .i64 on, .int .i64 k1, .int .i64 k2, .string k3, .int .i64 v1, .int .i64 v2, .string v3])) (by simp); have q5 := hbk.cell 5 _ rfl; have q6 := hbk.cell 6 _ rfl; have q7 := hbk.cell 7 _ rfl; clear hbk)
                  | (go_at_call 59; (with_reducible refine (HOV.out _).mono ?_); rintro e we ⟨rfl, hb⟩; have DE := Lib.hid (DC.out.below hb); clear hb; have hbk := DE.out.blk (c := (wb, 57, [.int .i64 g1, .int .i64 g2, .string g3])) (by simp); have s0 := hbk.cell 0 _ rfl; have s1 := hbk.cell 1 _ rfl; have s2 := hbk.cell 2 _ rfl; have z0 := hbk.frozen 0; have z1 := hbk.frozen 1; have z2 := hbk.frozen 2; clear hbk))
                obtain ⟨wd, hwd⟩ : ∃ W, W = ((we.setCell ⟨wb, 0, none⟩ (.int .i64 p1)).setCell ⟨wb, 1, none⟩ (.int .i64 p2)).setCell ⟨wb, 2, none⟩ (.string p3) := ⟨_, rfl⟩
                have DF := Lib.hid (DE.out.sub (M := [(wb, 57, [.int .i64 g1, .int .i64 g2, .string g3]), (ob, 130, [.int .i64 1, .int .i64 on, .int .i64 k1, .int .i64 k2, .string k3, .int .i64 v1, .int .i64 v2, .string v3]), (ab, 57, [.int .i64 y1, .int .i64 y2, .string y3])]) (fun c hc => by simp only [List.mem_cons, List.not_mem_nil, or_false] at hc ⊢; rcases hc with h | h | h <;> simp only [h, true_or, or_true]))
                have HDS : Hid (∀ c ∈ ([(ob, 130, [.int .i64 1, .int .i64 on, .int .i64 k1, .int .i64 k2, .string k3, .int .i64 v1, .int .i64 v2, .string v3]), (ab, 57, [.int .i64 y1, .int .i64 y2, .string y3])] : List (Nat × TypeId × List Value)), c.1 ≠ wb) := Lib.hid (fun c hc => by
                  simp only [List.mem_cons, List.not_mem_nil, or_false] at hc
                  have h1 := HOL.out
                  have h2 := HWB.out
                  rcases hc with h | h <;> (rw [h]; dsimp only; omega))
                have DG : Hid (TL wB wd (fun _ => False) (some ⟨sb, 0, none⟩) dp fn T' (k + 1) [(tb, .pointer none, s')] [(wb, 57, [.int .i64 p1, .int .i64 p2, .string p3]), (ob, 130, [.int .i64 1, .int .i64 on, .int .i64 k1, .int .i64 k2, .string k3, .int .i64 v1, .int .i64 v2, .string v3]), (ab, 57, [.int .i64 y1, .int .i64 y2, .string y3])]) := Lib.hid (by rw [hwd]; exact ((DF.out.stored HWB.out.1 HDS.out 0 (.int .i64 p1)).stored HWB.out.1 HDS.out 1 (.int .i64 p2)).stored HWB.out.1 HDS.out 2 (.string p3))
                have DW := Lib.hid (DG.out.sub (M := [(ob, 130, [.int .i64 1, .int .i64 on, .int .i64 k1, .int .i64 k2, .string k3, .int .i64 v1, .int .i64 v2, .string v3]), (wb, 57, [.int .i64 p1, .int .i64 p2, .string p3]), (ab, 57, [.int .i64 y1, .int .i64 y2, .string y3])]) (fun c hc => by simp only [List.mem_cons, List.not_mem_nil, or_false] at hc ⊢; rcases hc with h | h | h <;> simp only [h, true_or, or_true]))
                rw [← hwd]
                clear hwd s0 s1 s2 z0 z1 z2 q5 q6 q7 DC DE DF DG HDS
                have HKQ : Hid (tgetM s' ⟨y1, y2, y3⟩ = ⟨p1, p2, p3⟩) := Lib.hid HKP.out
                obtain ⟨h1, h2, h3, HKR, DW⟩ : ∃ (h1 h2 : Int) (h3 : ByteArray), Hid (tgetM s' ⟨y1, y2, y3⟩ = ⟨h1, h2, h3⟩) ∧ Hid (TL wB wd (fun _ => False) (some ⟨sb, 0, none⟩) dp fn T' (k + 1) [(tb, .pointer none, s')] [(ob, 130, [.int .i64 1, .int .i64 on, .int .i64 k1, .int .i64 k2, .string k3, .int .i64 v1, .int .i64 v2, .string v3]), (wb, 57, [.int .i64 h1, .int .i64 h2, .string h3]), (ab, 57, [.int .i64 y1, .int .i64 y2, .string y3])]) := ⟨p1, p2, p3, HKQ, DW⟩
                clear HKQ HKP
          rotate_left
          rotate_left
          rotate_left
          rotate_left
          focus
            have HTO := Lib.hid hto
            have HKO2 := Lib.hid hko
            have HKP := Lib.hid hkp
            clear hto hko hkp
            go_upto_region 19 with fail
            generalize wa = wd at D10 ⊢
            obtain ⟨h1, h2, h3, HKR, DW⟩ : ∃ (h1 h2 : Int) (h3 : ByteArray), Hid (tgetM s' ⟨y1, y2, y3⟩ = ⟨h1, h2, h3⟩) ∧ Hid (TL wB wd (fun _ => False) (some ⟨sb, 0, none⟩) dp fn T' (k + 1) [(tb, .pointer none, s')] [(ob, 130, [.int .i64 1, .int .i64 on, .int .i64 k1, .int .i64 k2, .string k3, .int .i64 v1, .int .i64 v2, .string v3]), (wb, 57, [.int .i64 h1, .int .i64 h2, .string h3]), (ab, 57, [.int .i64 y1, .int .i64 y2, .string y3])]) := ⟨g1, g2, g3, HKP, D10⟩
            clear HKP
          all_goals
            clear o0 o1 o2 o3 o4 o5 o6 o7 y0 y1c y2c
            have HLE := Lib.hid (DW.out.len (i := 0) rfl)
            have HBI := Lib.hid (fun h => border_in HTO.out h)
            have hbo := border_out HTO.out
            obtain ⟨n, hn⟩ : ∃ n, n = s'.A.length := ⟨_, rfl⟩
            have hnb : n ≤ 401 := by rw [hn]; have h1 := DW.out.lenb (i := 0) rfl; have h2 := HN4.out; omega
            rw [← hn] at HLE HBI hbo
            clear hn
            have HGA := Lib.hid (fun (W : World) (h : TL wB W (fun _ => False) (some ⟨sb, 0, none⟩) dp fn T' (k + 1) [(tb, .pointer none, s')] [(ob, 130, [.int .i64 1, .int .i64 on, .int .i64 k1, .int .i64 k2, .string k3, .int .i64 v1, .int .i64 v2, .string v3]), (wb, 57, [.int .i64 h1, .int .i64 h2, .string h3]), (ab, 57, [.int .i64 y1, .int .i64 y2, .string y3])]) => h.get (i := 0) rfl (intV (n : Nat)) (show (0 : Nat) ≤ maxLen from Nat.zero_le _) HK1.out.2)
            have HGB := Lib.hid (fun (W : World) (h : TL wB W (fun _ => False) (some ⟨sb, 0, none⟩) dp fn T' (k + 1) [(tb, .pointer none, s')] [(ob, 130, [.int .i64 1, .int .i64 on, .int .i64 k1, .int .i64 k2, .string k3, .int .i64 v1, .int .i64 v2, .string v3]), (wb, 57, [.int .i64 h1, .int .i64 h2, .string h3]), (ab, 57, [.int .i64 y1, .int .i64 y2, .string y3])]) => h.get (i := 0) rfl (intV ((n : Nat) + 1)) (show (0 : Nat) ≤ maxLen from Nat.zero_le _) HK1.out.2)
            obtain ⟨⟨a1, a2, a3⟩, ha⟩ : ∃ o, tgetM s' (intV (n : Nat)) = o := ⟨_, rfl⟩
            obtain ⟨⟨b1, b2, b3⟩, hbb⟩ : ∃ o, tgetM s' (intV ((n : Nat) + 1)) = o := ⟨_, rfl⟩
            rw [ha] at HGA HBI
            rw [hbb] at HGB hbo
            have hbo : b1 = 0 := hbo
            subst hbo
            clear ha hbb
            have hn0 : (0 : Int) ≤ (n : Int) := by omega
            have hn1 : (n : Int) ≤ 401 := by omega
            have hwr : IntKind.i64.wrap ((n : Int) + 1) = (n : Int) + 1 := by rw [← wrap64_eq]; unfold RowKit.wrap64; omega
            have hfa : ∀ W : World, (Instr.field 57 (.agg #[.int .i64 a1, .int .i64 a2, .string a3]) 0).run Try.prog W = .ok (.int .i64 a1) W := fun _ => by kernel_rfl
            have hfb : ∀ W : World, (Instr.field 57 (.agg #[.int .i64 0, .int .i64 b2, .string b3]) 0).run Try.prog W = .ok (.int .i64 0) W := fun _ => by kernel_rfl
            have hneg : decide ((n : Int) < 0) = false := decide_eq_false (by omega)
            have hz : n = 0 ∨ 0 < n := by omega
            rcases hz with rfl | hz
            focus
              have hpos : decide ((0 : Int) < ((0 : Nat) : Int)) = false := by decide
              have HGB : Hid (∀ W : World, TL wB W (fun _ => False) (some ⟨sb, 0, none⟩) dp fn T' (k + 1) [(tb, .pointer none, s')] [(ob, 130, [.int .i64 1, .int .i64 on, .int .i64 k1, .int .i64 k2, .string k3, .int .i64 v1, .int .i64 v2, .string v3]), (wb, 57, [.int .i64 h1, .int .i64 h2, .string h3]), (ab, 57, [.int .i64 y1, .int .i64 y2, .string y3])] → Calls Try.prog 67 #[.pointer (some ⟨tb, 0, none⟩), .agg #[.int .i64 2, .int .i64 1, .string Val.e]] W fun e w' => e = .returned (.agg #[.int .i64 0, .int .i64 b2, .string b3]) ∧ Below W.heap.size W w') := HGB
              go_wp2_with (first
                | (go_at_call 72; (with_reducible refine HLE.out.mono ?_); rintro e wq ⟨rfl, rfl⟩)
                | (go_at_call 50; (with_reducible refine (HI.out _ _).mono ?_); rintro e wq ⟨rfl, hb⟩; have DX := Lib.hid (DW.out.below hb); clear hb; have HGY := Lib.hid (HGB.out _ DX.out))
                | (go_at_call 67; (with_reducible refine HGY.out.mono ?_); rintro e wq ⟨rfl, hb⟩; have DZ := Lib.hid (DX.out.below hb).drop; clear hb))
              go_roundw
              case rel => exact Lib.hid ⟨k + 1, T', s', h1, h2, h3, by omega, by go_num, HTO.out, HKO2.out, HKR.out, DZ⟩
              case measure => simp [intOf]; omega
            focus
              have hpos : decide ((0 : Int) < (n : Int)) = true := decide_eq_true (by omega)
              have ha1 : (a1 == 0) = false := by have := HBI.out hz; simpa using this
              go_wp2_with (first
                | (go_at_call 72; (with_reducible refine HLE.out.mono ?_); rintro e wq ⟨rfl, rfl⟩; have HIA := Lib.hid (HI.out (n : Int)); have HIB := Lib.hid (HI.out ((n : Int) + 1)))
                | (go_at_call 50; (with_reducible refine (HIA.out _).mono ?_); rintro e wq ⟨rfl, hb⟩; have DX := Lib.hid (DW.out.below hb); clear hb; have HGX := Lib.hid (HGA.out _ DX.out))
                | (go_at_call 67; (with_reducible refine HGX.out.mono ?_); rintro e wq ⟨rfl, hb⟩; have DY := Lib.hid (DX.out.below hb); clear hb)
                | (go_at_call 50; (with_reducible refine (HIB.out _).mono ?_); rintro e wq ⟨rfl, hb⟩; have DV := Lib.hid (DY.out.below hb); clear hb; have HGY := Lib.hid (HGB.out _ DV.out))
                | (go_at_call 67; (with_reducible refine HGY.out.mono ?_); rintro e wq ⟨rfl, hb⟩; have DZ := Lib.hid (DV.out.below hb).drop; clear hb))
              go_roundw
              case rel => exact Lib.hid ⟨k + 1, T', s', h1, h2, h3, by omega, by go_num, HTO.out, HKO2.out, HKR.out, DZ⟩
              case measure => simp [intOf]; omega
        · have h1' : (oc != 1) = true := by simp [h1]
          have HGG := Lib.hid (D9.out.get (i := 0) rfl ⟨k1, k2, k3⟩ HKS.out HK1.out.1)
          have HNX := Lib.hid (fun (W : World) (h : TL wB W (fun _ => False) (some ⟨sb, 0, none⟩) dp fn T k [(tb, .pointer none, s)] [(ob, 130, [.int .i64 oc, .int .i64 on, .int .i64 k1, .int .i64 k2, .string k3, .int .i64 v1, .int .i64 v2, .string v3]), (wb, 57, [.int .i64 g1, .int .i64 g2, .string g3]), (ab, 57, [.int .i64 y1, .int .i64 y2, .string y3])]) => h.next (i := 0) rfl ⟨k1, k2, k3⟩ HKS.out HK1.out.1)
          go_wp2_with (first
            | (go_at_call 67; (with_reducible refine HGG.out.mono ?_); rintro e wa ⟨rfl, hb⟩; have DA := Lib.hid (D9.out.below hb); clear hb; have hbk := DA.out.blk (c := (ob, 130, [.int .i64 oc, .int .i64 on, .int .i64 k1, .int .i64 k2, .string k3, .int .i64 v1, .int .i64 v2, .string v3])) (by simp); have o2' := hbk.cell 2 _ rfl; have o3' := hbk.cell 3 _ rfl; have o4' := hbk.cell 4 _ rfl; clear hbk; have HNN2 := Lib.hid (HNX.out _ DA.out))
            | (go_at_call 73; (with_reducible refine HNN2.out.mono ?_); rintro e wc ⟨rfl, hb⟩; have DC := Lib.hid ((DA.out.below hb).drop.mono (Nat.le_succ k)); clear hb))
          go_roundw
          case rel => exact Lib.hid ⟨k + 1, T, s, g1, g2, g3, by omega, by go_num, HTOK.out, HKO.out, HGT0.out, DC⟩
          case measure => simp [intOf]; omega
      · obtain rfl : k = n2 := by omega
        have HGE := Lib.hid (fun (W : World) (h : TL wB W (fun _ => False) (some ⟨sb, 0, none⟩) dp fn T k [(tb, .pointer none, s)] [(wb, 57, [.int .i64 g1, .int .i64 g2, .string g3]), (ab, 57, [.int .i64 y1, .int .i64 y2, .string y3])]) => h.get (i := 0) rfl ⟨y1, y2, y3⟩ HYM.out (by have := HN4.out; omega))
        rw [HGT0.out] at HGE
        go_upto_region 23 with fail
        have BLe : Below wr.heap.size wr ({ wr with drawn := wr.drawn + 1 } : World) := ⟨rfl, rfl, rfl, Nat.le_refl _, fun _ _ => rfl⟩
        have De := Lib.hid (hre.out.below BLe)
        refine wp_region_held (S := fun W : World => Blk W (wb) 57 [.int .i64 g1, .int .i64 g2, .string g3] ∧ Blk W (ab) 57 [.int .i64 y1, .int .i64 y2, .string y3] ∧ True) (by kernel_rfl) ?_
        generalize ({ wr with drawn := wr.drawn + 1 } : World) = we at BLe De ⊢
        have hSe : (fun W : World => Blk W (wb) 57 [.int .i64 g1, .int .i64 g2, .string g3] ∧ Blk W (ab) 57 [.int .i64 y1, .int .i64 y2, .string y3] ∧ True) we := ⟨De.out.blk (c := (wb, 57, [.int .i64 g1, .int .i64 g2, .string g3])) (by simp), De.out.blk (c := (ab, 57, [.int .i64 y1, .int .i64 y2, .string y3])) (by simp), trivial⟩
        have wze0 : ∀ W : World, (Blk W (wb) 57 [.int .i64 g1, .int .i64 g2, .string g3] ∧ Blk W (ab) 57 [.int .i64 y1, .int .i64 y2, .string y3] ∧ True) → W.cell? ⟨wb, 0, none⟩ = some (.int .i64 g1) := fun W hW => hW.1.cell 0 _ rfl
        have wze1 : ∀ W : World, (Blk W (wb) 57 [.int .i64 g1, .int .i64 g2, .string g3] ∧ Blk W (ab) 57 [.int .i64 y1, .int .i64 y2, .string y3] ∧ True) → W.cell? ⟨wb, 1, none⟩ = some (.int .i64 g2) := fun W hW => hW.1.cell 1 _ rfl
        have wze2 : ∀ W : World, (Blk W (wb) 57 [.int .i64 g1, .int .i64 g2, .string g3] ∧ Blk W (ab) 57 [.int .i64 y1, .int .i64 y2, .string y3] ∧ True) → W.cell? ⟨wb, 2, none⟩ = some (.string g3) := fun W hW => hW.1.cell 2 _ rfl
        have aze0 : ∀ W : World, (Blk W (wb) 57 [.int .i64 g1, .int .i64 g2, .string g3] ∧ Blk W (ab) 57 [.int .i64 y1, .int .i64 y2, .string y3] ∧ True) → W.cell? ⟨ab, 0, none⟩ = some (.int .i64 y1) := fun W hW => hW.2.1.cell 0 _ rfl
        have aze1 : ∀ W : World, (Blk W (wb) 57 [.int .i64 g1, .int .i64 g2, .string g3] ∧ Blk W (ab) 57 [.int .i64 y1, .int .i64 y2, .string y3] ∧ True) → W.cell? ⟨ab, 1, none⟩ = some (.int .i64 y2) := fun W hW => hW.2.1.cell 1 _ rfl
        have aze2 : ∀ W : World, (Blk W (wb) 57 [.int .i64 g1, .int .i64 g2, .string g3] ∧ Blk W (ab) 57 [.int .i64 y1, .int .i64 y2, .string y3] ∧ True) → W.cell? ⟨ab, 2, none⟩ = some (.string y3) := fun W hW => hW.2.1.cell 2 _ rfl
        refine takeH 0 (oi := ⟨some 112, _, _, _, _, _⟩) (v := ?_) rfl (by kernel_rfl) (by kernel_rfl) (by kernel_rfl) (fun _ _ _ h => h) (Or.inl ⟨by rfl, ?_⟩) hSe ?_
        rotate_left
        · (intro W hW; (try dsimp only at hW); go_simp; try with_reducible rfl)
        try (conv in (Act.put _ _ _) => simp only [Act.put, List.setIfInBounds_toArray, List.set_cons_zero, List.set_cons_succ])
        refine takeH 1 (oi := ⟨some 113, _, _, _, _, _⟩) (v := ?_) rfl (by kernel_rfl) (by kernel_rfl) (by kernel_rfl) (fun _ _ _ h => h) (Or.inl ⟨by rfl, ?_⟩) hSe ?_
        rotate_left
        · (intro W hW; (try dsimp only at hW); go_simp; try with_reducible rfl)
        try (conv in (Act.put _ _ _) => simp only [Act.put, List.setIfInBounds_toArray, List.set_cons_zero, List.set_cons_succ])
        refine takeH 3 (oi := ⟨some 115, _, _, _, _, _⟩) (v := ?_) rfl (by kernel_rfl) (by kernel_rfl) (by kernel_rfl) (fun _ _ _ h => h) (Or.inl ⟨by rfl, ?_⟩) hSe ?_
        rotate_left
        · (intro W hW; (try dsimp only at hW); go_simp; try with_reducible rfl)
        try (conv in (Act.put _ _ _) => simp only [Act.put, List.setIfInBounds_toArray, List.set_cons_zero, List.set_cons_succ])
        refine one (i := 2) (by kernel_rfl) ?_
        refine wpOp_wanted rfl (by rfl) fun K hK => ?_
        go_simp
        with_reducible refine (HGE.out _ De.out).mono ?_
        rintro e we17 ⟨rfl, hb⟩
        have De17 := Lib.hid (De.out.below hb)
        clear hb
        have Se17 : (fun W : World => Blk W (wb) 57 [.int .i64 g1, .int .i64 g2, .string g3] ∧ Blk W (ab) 57 [.int .i64 y1, .int .i64 y2, .string y3] ∧ True) we17 := ⟨De17.out.blk (c := (wb, 57, [.int .i64 g1, .int .i64 g2, .string g3])) (by simp), De17.out.blk (c := (ab, 57, [.int .i64 y1, .int .i64 y2, .string y3])) (by simp), trivial⟩
        refine hK _ _ ⟨Se17, ?_⟩
        clear hK K
        try (conv in (Act.put _ _ _) => simp only [Act.put, List.setIfInBounds_toArray, List.set_cons_zero, List.set_cons_succ])
        refine takeH 4 (oi := ⟨some 116, _, _, _, _, _⟩) (v := ?_) rfl (by kernel_rfl) (by kernel_rfl) (by kernel_rfl) (fun _ _ _ h => h) (Or.inl ⟨by rfl, ?_⟩) Se17 ?_
        rotate_left
        · (intro W hW; (try dsimp only at hW); go_simp; try with_reducible rfl)
        try (conv in (Act.put _ _ _) => simp only [Act.put, List.setIfInBounds_toArray, List.set_cons_zero, List.set_cons_succ])
        refine takeH 5 (oi := ⟨some 2, _, _, _, _, _⟩) (v := ?_) rfl (by kernel_rfl) (by kernel_rfl) (by kernel_rfl) (fun _ _ _ h => h) (Or.inl ⟨by rfl, ?_⟩) Se17 ?_
        rotate_left
        · (intro W hW; (try dsimp only at hW); go_simp; try with_reducible rfl)
        try (conv in (Act.put _ _ _) => simp only [Act.put, List.setIfInBounds_toArray, List.set_cons_zero, List.set_cons_succ])
        refine wpAnyH_done (by kernel_rfl) ?_ _
        clear wze0 wze1 wze2 aze0 aze1 aze2
        go_wp2
        go_ret
        exact ⟨rfl, DB.out.bel.trans (De17.out.bel.mono DB.out.bel.size)⟩
end Go.Proofs.Ytmjfmfelbmbniaa
