/- The reference's dictionary: Next. -/
import Derived.Test.YtmjfmfelbmbniaaRd
namespace Go.Proofs.Ytmjfmfelbmbniaa
open Go.RowKit Go.Maps HK ShM
set_option linter.unusedVariables false
set_option linter.unusedSimpArgs false
theorem rbehind {L : Pairs} (hk : KeysOK L) {i : Nat} {k v : Val} (h : L[i]? = some (k, v)) : behind L k = L.drop (i + 1) := by
  obtain ⟨hlt, he⟩ := List.getElem?_eq_some_iff.1 h
  have hL : L = L.take i ++ (k, v) :: L.drop (i + 1) := by rw [← he, ← List.drop_eq_getElem_cons hlt, List.take_append_drop]
  have hn := hk.1
  rw [hL] at hn
  conv => lhs; rw [hL]
  unfold behind
  rw [dropWhile_to (not_mem_left hn).1]
  rfl
theorem rfirst_skip {L : Pairs} {j : Nat} {x : Val × Val} (hj : L[j]? = some x) (hx : x.2.k = 0) : firstLive (L.drop (j + 1)) = firstLive (L.drop j) := by
  obtain ⟨hlt, he⟩ := List.getElem?_eq_some_iff.1 hj
  rw [List.drop_eq_getElem_cons hlt, he]
  simp [firstLive, hx]
theorem rfirst_hit {L : Pairs} {j : Nat} {x : Val × Val} (hj : L[j]? = some x) (hv : x.2.k ≠ 0) : firstLive (L.drop j) = x := by
  obtain ⟨hlt, he⟩ := List.getElem?_eq_some_iff.1 hj
  rw [List.drop_eq_getElem_cons hlt, he]
  simp [firstLive, hv]
theorem rfirst_end {L : Pairs} {j : Nat} (hj : L.length ≤ j) : firstLive (L.drop j) = (Val.nil, Val.nil) := by
  rw [List.drop_eq_nil_of_le hj]; rfl
section
variable {w w' : World} {X : Nat → Prop} {rb : Nat} {L : Pairs}
set_option maxHeartbeats 8000000 in
set_option maxRecDepth 20000 in
theorem rnext_calls (h : RD w X rb L) (hkk : KeysOK L) (x : Val) (hL : L.length ≤ 1048576) : Calls Try.prog 116 #[.pointer (some ⟨rb, 0, none⟩), x.v] w fun e w' => e = .returned (.tuple #[(nextM L x).1.1.v, (nextM L x).1.2.v, .int .i64 (nextM L x).2]) ∧ Below w.heap.size w w' := by
  have HP := Lib.hid (fun (W : World) (h : RD W X rb L) => rplace_calls h x hL)
  have HD := Lib.hid h
  have HB0 : Hid (Below w.heap.size w (((w.alloc (.cells #[.int .i64 x.k, .int .i64 x.n, .string x.s] 57)).alloc (.cells #[.int .i64 0, .int .i64 0, .string ⟨#[]⟩] 57)).alloc (.cells #[.int .i64 0, .int .i64 0, .string ⟨#[]⟩] 57))) := Lib.hid (by (repeat (first | exact Below.refl _ _ | (refine Below.alloc ?_ (by simp <;> omega) _))))
  have HTW : Hid (Two (((w.alloc (.cells #[.int .i64 x.k, .int .i64 x.n, .string x.s] 57)).alloc (.cells #[.int .i64 0, .int .i64 0, .string ⟨#[]⟩] 57)).alloc (.cells #[.int .i64 0, .int .i64 0, .string ⟨#[]⟩] 57)) (w.heap.size + 1)) := Lib.hid (by
    have h1 := Blk.new (w.alloc (.cells #[.int .i64 x.k, .int .i64 x.n, .string x.s] 57)) [.int .i64 0, .int .i64 0, .string ⟨#[]⟩] 57
    have h2 := Blk.new ((w.alloc (.cells #[.int .i64 x.k, .int .i64 x.n, .string x.s] 57)).alloc (.cells #[.int .i64 0, .int .i64 0, .string ⟨#[]⟩] 57)) [.int .i64 0, .int .i64 0, .string ⟨#[]⟩] 57
    exact ⟨by simpa using h1.alloc _, by simpa using h2⟩)
  obtain ⟨rv, h⟩ := h
  have HI := Lib.hid h
  obtain ⟨ra, rc, hrv, hrc1, hrc2⟩ := h.form
  subst hrv
  have HC : Hid (∀ W, Below w.heap.size w W → ∀ j y, L[j]? = some y → ∃ g, ra = some ⟨g, 0, none⟩ ∧ ∀ c u, c < 6 → (pcells y)[c]? = some u → W.cell? ⟨g, j * 6 + c, none⟩ = some u) := Lib.hid (fun W hW j y hj => by
    obtain ⟨g, cap, he, hc⟩ := (HI.out.below hW).cell hj
    exact ⟨g, (Value.slice.inj he).1, hc⟩)
  by_cases hk : x.k = 0
  · have hM : nextM L x = (firstLive L, 0) := if_pos hk
    rw [hM]
    obtain ⟨⟨R1, R2⟩, hR⟩ : ∃ R, firstLive L = R := ⟨_, rfl⟩
    rw [hR]
    have HL : Hid (firstLive (L.drop 0) = (R1, R2)) := Lib.hid (by rw [List.drop_zero, hR])
    obtain ⟨x1, x2, x3⟩ := x
    have hk : x1 = 0 := hk
    subst hk
    have c0 := (h.below HB0.out).hd.cell 0 _ rfl
    obtain ⟨m, hm⟩ : ∃ m, m = L.length := ⟨_, rfl⟩
    have EM := Lib.hid hm
    rw [← hm] at c0 hrc1 hL
    clear hR hM hm h hkk
    go_enter Try.func116, Try.ntmps116
    go_wp2_with fail
    go_loopw [30] (fun i wr => ∃ j : Nat, j ≤ m ∧ i = .int .i64 j ∧ Hid (Below w.heap.size w wr ∧ Two wr (w.heap.size + 1) ∧ firstLive (L.drop j) = (R1, R2))) (fun i _ => m - (intOf i).toNat)
    case atStart => exact ⟨0, Nat.zero_le _, rfl, Lib.hid ⟨HB0.out, HTW.out, HL.out⟩⟩
    case round =>
      obtain ⟨j, hj, rfl, hre⟩ := hrel
      by_cases hlt : j < m
      · have hjl : j < L.length := by rw [← EM.out]; exact hlt
        obtain ⟨y, hy⟩ : ∃ y, L[j]? = some y := ⟨_, List.getElem?_eq_getElem hjl⟩
        obtain ⟨g, rfl, hcell⟩ := HC.out wr hre.out.1 j y hy
        have hj0 : (0 : Int) ≤ (j : Int) := by omega
        have hj1 : (j : Int) < (m : Int) := by omega
        have u0 := hcell 0 _ (by decide) rfl
        have u1 := hcell 1 _ (by decide) rfl
        have u2 := hcell 2 _ (by decide) rfl
        have u3 := hcell 3 _ (by decide) rfl
        have u4 := hcell 4 _ (by decide) rfl
        have u5 := hcell 5 _ (by decide) rfl
        rw [Nat.add_zero] at u0
        have HY := Lib.hid hy
        clear hcell hjl hy
        obtain ⟨⟨k1, k2, k3⟩, ⟨v1, v2, v3⟩⟩ := y
        have HB2 : Hid (Below wr.heap.size wr (wr.alloc (.cells #[.int .i64 k1, .int .i64 k2, .string k3, .int .i64 v1, .int .i64 v2, .string v3] 197))) := Lib.hid ((Below.refl _ _).alloc (Nat.le_refl _) _)
        have HBX : Hid (Blk (wr.alloc (.cells #[.int .i64 k1, .int .i64 k2, .string k3, .int .i64 v1, .int .i64 v2, .string v3] 197)) wr.heap.size 197 [.int .i64 k1, .int .i64 k2, .string k3, .int .i64 v1, .int .i64 v2, .string v3]) := Lib.hid (Blk.new wr [.int .i64 k1, .int .i64 k2, .string k3, .int .i64 v1, .int .i64 v2, .string v3] 197)
        by_cases hvk : v1 = 0
        · have HS := Lib.hid ((rfirst_skip HY.out hvk).trans hre.out.2.2)
          have HN := Lib.hid hvk
          subst hvk
          go_wp2_with fail
          go_roundw
          case rel => exact ⟨j + 1, by omega, by go_num, Lib.hid ⟨hre.out.1.trans (HB2.out.mono hre.out.1.size), hre.out.2.1.below HB2.out, HS.out⟩⟩
          case measure => simp [intOf]; omega
        · have hR := (rfirst_hit HY.out hvk).symm.trans hre.out.2.2
          cases hR
          have hvk' : (v1 != 0) = true := by simp [hvk]
          go_upto_region 11 with (fail)
          have HT := Lib.hid (hre.out.2.1.below HB2.out)
          have hne4 : w.heap.size + 1 ≠ wr.heap.size := by have := hre.out.2.1.h4.lt; omega
          have hne5 : w.heap.size + 1 + 1 ≠ wr.heap.size := by have := hre.out.2.1.h5.lt; omega
          clear u0 u1 u2 u3 u4 u5
          have p0 : ∀ W, Blk W wr.heap.size 197 [.int .i64 k1, .int .i64 k2, .string k3, .int .i64 v1, .int .i64 v2, .string v3] → W.cell? ⟨wr.heap.size, 0, none⟩ = some (.int .i64 k1) := fun W hW => hW.cell 0 _ rfl
          have p1 : ∀ W, Blk W wr.heap.size 197 [.int .i64 k1, .int .i64 k2, .string k3, .int .i64 v1, .int .i64 v2, .string v3] → W.cell? ⟨wr.heap.size, 1, none⟩ = some (.int .i64 k2) := fun W hW => hW.cell 1 _ rfl
          have p2 : ∀ W, Blk W wr.heap.size 197 [.int .i64 k1, .int .i64 k2, .string k3, .int .i64 v1, .int .i64 v2, .string v3] → W.cell? ⟨wr.heap.size, 2, none⟩ = some (.string k3) := fun W hW => hW.cell 2 _ rfl
          have p3 : ∀ W, Blk W wr.heap.size 197 [.int .i64 k1, .int .i64 k2, .string k3, .int .i64 v1, .int .i64 v2, .string v3] → W.cell? ⟨wr.heap.size, 3, none⟩ = some (.int .i64 v1) := fun W hW => hW.cell 3 _ rfl
          have p4 : ∀ W, Blk W wr.heap.size 197 [.int .i64 k1, .int .i64 k2, .string k3, .int .i64 v1, .int .i64 v2, .string v3] → W.cell? ⟨wr.heap.size, 4, none⟩ = some (.int .i64 v2) := fun W hW => hW.cell 4 _ rfl
          have p5 : ∀ W, Blk W wr.heap.size 197 [.int .i64 k1, .int .i64 k2, .string k3, .int .i64 v1, .int .i64 v2, .string v3] → W.cell? ⟨wr.heap.size, 5, none⟩ = some (.string v3) := fun W hW => hW.cell 5 _ rfl
          obtain ⟨w4, hw4⟩ : ∃ w4, w4 = wr.alloc (.cells #[.int .i64 k1, .int .i64 k2, .string k3, .int .i64 v1, .int .i64 v2, .string v3] 197) := ⟨_, rfl⟩
          rw [← hw4] at HB2 HBX HT ⊢
          clear hw4
          have hS0 : Blk ({ w4 with drawn := w4.drawn + 1 } : World) wr.heap.size 197 [.int .i64 k1, .int .i64 k2, .string k3, .int .i64 v1, .int .i64 v2, .string v3] := HBX.out
          have HB5 : Hid (Below wr.heap.size wr ({ w4 with drawn := w4.drawn + 1 } : World)) := Lib.hid ⟨HB2.out.os, HB2.out.tape, HB2.out.output, HB2.out.size, HB2.out.block⟩
          have HT5 : Hid (Two ({ w4 with drawn := w4.drawn + 1 } : World) (w.heap.size + 1)) := Lib.hid ⟨HT.out.h4, HT.out.h5⟩
          refine RG.region_F (fun W => Blk W wr.heap.size 197 [.int .i64 k1, .int .i64 k2, .string k3, .int .i64 v1, .int .i64 v2, .string v3]) 6 (by kernel_rfl) ?_
          generalize ({ w4 with drawn := w4.drawn + 1 } : World) = w5 at hS0 HB5 HT5 ⊢
          clear HB2 HBX HT
          refine RG.takeF 0 (oi := ⟨some 38, _, _, _, _, _⟩) (v := ?_) rfl (by kernel_rfl) (by kernel_rfl) (by kernel_rfl) (by kernel_rfl) (fun _ _ _ h => h) (Or.inl ⟨by rfl, ?hy0⟩) hS0 ?rest0
          case hy0 => (intro W hW; (try dsimp only at hW); go_simp; try with_reducible rfl)
          simp only [Act.put, List.setIfInBounds_toArray, List.set_cons_zero, List.set_cons_succ]
          refine RG.takeF 1 (oi := ⟨some 39, _, _, _, _, _⟩) (v := ?_) rfl (by kernel_rfl) (by kernel_rfl) (by kernel_rfl) (by kernel_rfl) (fun _ _ _ h => h) (Or.inl ⟨by rfl, ?hy1⟩) hS0 ?rest1
          case hy1 => (intro W hW; (try dsimp only at hW); go_simp; try with_reducible rfl)
          simp only [Act.put, List.setIfInBounds_toArray, List.set_cons_zero, List.set_cons_succ]
          refine RG.takeF 2 (oi := ⟨some 40, _, _, _, _, _⟩) (v := ?_) rfl (by kernel_rfl) (by kernel_rfl) (by kernel_rfl) (by kernel_rfl) (fun _ _ _ h => h) (Or.inl ⟨by rfl, ?hy2⟩) hS0 ?rest2
          case hy2 => (intro W hW; (try dsimp only at hW); go_simp; try with_reducible rfl)
          simp only [Act.put, List.setIfInBounds_toArray, List.set_cons_zero, List.set_cons_succ]
          refine RG.takeF 3 (oi := ⟨some 41, _, _, _, _, _⟩) (v := ?_) rfl (by kernel_rfl) (by kernel_rfl) (by kernel_rfl) (by kernel_rfl) (fun _ _ _ h => h) (Or.inl ⟨by rfl, ?hy3⟩) hS0 ?rest3
          case hy3 => (intro W hW; (try dsimp only at hW); go_simp; try with_reducible rfl)
          simp only [Act.put, List.setIfInBounds_toArray, List.set_cons_zero, List.set_cons_succ]
          have x0 := HT5.out.h4.cell 0 _ rfl
          have x1 := HT5.out.h4.cell 1 _ rfl
          have x2 := HT5.out.h4.cell 2 _ rfl
          have f0 := HT5.out.h4.frozen 0
          have f1 := HT5.out.h4.frozen 1
          have f2 := HT5.out.h4.frozen 2
          refine RG.oneF 4 (by kernel_rfl) (by decide) ?_
          refine RG.wpOp_plain rfl rfl fun K hK => ?_
          go_simp
          refine hK _ _ ⟨(((hS0.setOther (Ne.symm hne4) _).setOther (Ne.symm hne4) _).setOther (Ne.symm hne4) _), ?_⟩
          clear hK K
          try simp only [Act.put, List.setIfInBounds_toArray, List.set_cons_zero, List.set_cons_succ]
          have hne45 : w.heap.size + 1 + 1 ≠ w.heap.size + 1 := by omega
          have hh5 := ((HT5.out.h5.setOther (a := ⟨w.heap.size + 1, 0, none⟩) hne45 (.int .i64 k1)).setOther (a := ⟨w.heap.size + 1, 1, none⟩) hne45 (.int .i64 k2)).setOther (a := ⟨w.heap.size + 1, 2, none⟩) hne45 (.string k3)
          have y0 := HT5.out.h5.cell 0 _ rfl
          have y1 := HT5.out.h5.cell 1 _ rfl
          have y2 := HT5.out.h5.cell 2 _ rfl
          have g0 := HT5.out.h5.frozen 0
          have g1 := HT5.out.h5.frozen 1
          have g2 := HT5.out.h5.frozen 2
          refine RG.oneF 5 (by kernel_rfl) (by decide) ?_
          refine RG.wpOp_plain rfl rfl fun K hK => ?_
          go_simp
          refine hK _ _ ⟨((((((hS0.setOther (Ne.symm hne4) _).setOther (Ne.symm hne4) _).setOther (Ne.symm hne4) _).setOther (Ne.symm hne5) _).setOther (Ne.symm hne5) _).setOther (Ne.symm hne5) _), ?_⟩
          clear hK K
          try simp only [Act.put, List.setIfInBounds_toArray, List.set_cons_zero, List.set_cons_succ]
          refine RG.lastF (by kernel_rfl) (by kernel_rfl) ?_
          refine RG.wpOp_plain rfl rfl fun K hK => ?_
          go_simp
          refine hK _ _ ?_
          clear hK K
          try simp only [Act.put, List.setIfInBounds_toArray, List.set_cons_zero, List.set_cons_succ]
          have HBZ := Lib.hid (hre.out.1.trans (HB5.out.mono hre.out.1.size))
          go_wp2
          refine bodyPost_ret (results_val3 (x := ⟨k1, k2, k3⟩) (y := ⟨v1, v2, v3⟩) rfl _ rfl rfl rfl ((((((HT5.out.h4.setSame 0 _).setSame 1 _).setSame 2 _).setOther (Ne.symm hne45) _).setOther (Ne.symm hne45) _).setOther (Ne.symm hne45) _) (((hh5.setSame 0 _).setSame 1 _).setSame 2 _)) rfl ⟨rfl, ?_⟩
          exact (((((HBZ.out.setCell (by simp) _).setCell (by simp) _).setCell (by simp) _).setCell (by simp; omega) _).setCell (by simp; omega) _).setCell (by simp; omega) _
      · obtain rfl : j = m := by omega
        have hR := hre.out.2.2
        rw [rfirst_end (by rw [EM.out]; exact Nat.le_refl _)] at hR
        cases hR
        have HT := Lib.hid hre.out.2.1
        have x0 := HT.out.h4.cell 0 _ rfl
        have x1 := HT.out.h4.cell 1 _ rfl
        have x2 := HT.out.h4.cell 2 _ rfl
        have f0 := HT.out.h4.frozen 0
        have f1 := HT.out.h4.frozen 1
        have f2 := HT.out.h4.frozen 2
        have y0 := HT.out.h5.cell 0 _ rfl
        have y1 := HT.out.h5.cell 1 _ rfl
        have y2 := HT.out.h5.cell 2 _ rfl
        have g0 := HT.out.h5.frozen 0
        have g1 := HT.out.h5.frozen 1
        have g2 := HT.out.h5.frozen 2
        have hne45 : w.heap.size + 1 + 1 ≠ w.heap.size + 1 := by omega
        have HBZ := Lib.hid hre.out.1
        go_wp2_with fail
        refine bodyPost_ret (results_val3 (x := Val.nil) (y := Val.nil) rfl _ rfl rfl rfl ((((((HT.out.h4.setSame 0 _).setSame 1 _).setSame 2 _).setOther (Ne.symm hne45) _).setOther (Ne.symm hne45) _).setOther (Ne.symm hne45) _) ((((((HT.out.h5.setOther hne45 _).setOther hne45 _).setOther hne45 _).setSame 0 _).setSame 1 _).setSame 2 _)) rfl ⟨rfl, ?_⟩
        exact (((((HBZ.out.setCell (by simp) _).setCell (by simp) _).setCell (by simp) _).setCell (by simp; omega) _).setCell (by simp; omega) _).setCell (by simp; omega) _
  · have hk0 : (x.k == 0) = false := by simp [hk]
    have hkn : (x.k != 0) = true := by simp [hk]
    have HHIT := Lib.hid (fun (n : Nat) (v : Val) (h1 : x.bad = false) (h2 : L[n]? = some (keyV x, v)) => show nextM L x = (firstLive (L.drop (n + 1)), 0) by
      unfold nextM; rw [if_neg hk, if_pos (place_hit hkk h1 h2).1, rbehind hkk h2])
    have HMIS := Lib.hid (fun (h : x.bad = true ∨ ∀ p ∈ L, p.1 ≠ keyV x) => show nextM L x = ((Val.nil, Val.nil), 15) by
      unfold nextM; rw [if_neg hk, (place_miss h).1]; rfl)
    obtain ⟨⟨⟨R1, R2⟩, R3⟩, hR⟩ : ∃ R, nextM L x = R := ⟨_, rfl⟩
    rw [hR] at HHIT HMIS ⊢
    clear hR hkk
    obtain ⟨m, hm⟩ : ∃ m, m = L.length := ⟨_, rfl⟩
    have EM := Lib.hid hm
    rw [← hm] at hrc1 hL
    clear h hm hk
    obtain ⟨x1, x2, x3⟩ := x
    go_enter Try.func116, Try.ntmps116
    go_upto_region 4 with (go_at_call 149; (with_reducible refine (HP.out _ (HD.out.below HB0.out)).mono ?_); rintro e w1 ⟨i, rfl, hp, hb⟩; have HB3 := Lib.hid (HB0.out.trans (hb.mono HB0.out.size)); have HT3 := Lib.hid (HTW.out.below hb); have HP1 := Lib.hid hp; clear hb hp)
    rcases HP1.out with ⟨hb, n, v, rfl, hn⟩ | ⟨rfl, hm⟩
    · have hv := HHIT.out n v hb hn
      obtain ⟨hR, rfl⟩ : firstLive (L.drop (n + 1)) = (R1, R2) ∧ R3 = 0 := ⟨(congrArg Prod.fst hv).symm, congrArg Prod.snd hv⟩
      have hn1 : n + 1 ≤ m := by have := (List.getElem?_eq_some_iff.1 hn).1; rw [← EM.out] at this; exact this
      have hn2 : (0 : Int) ≤ (n : Int) := by omega
      have HL := Lib.hid hR
      clear hv
      obtain ⟨g, rfl, _⟩ := HC.out w (Below.refl _ _) n _ hn
      have c0 := (HI.out.below HB3.out).hd.cell 0 _ rfl
      rw [← EM.out] at c0
      clear hb hn hR HHIT HMIS HP HP1
      go_wp2_with fail
      case inl =>
        go_loopw [30] (fun ii wr => ∃ j : Nat, n + 1 + j ≤ m ∧ ii = .int .i64 j ∧ Hid (Below w.heap.size w wr ∧ Two wr (w.heap.size + 1) ∧ firstLive (L.drop (n + 1 + j)) = (R1, R2))) (fun ii _ => m - (n + 1) - (intOf ii).toNat)
        case atStart => exact ⟨0, by omega, rfl, Lib.hid ⟨HB3.out, HT3.out, by rw [Nat.add_zero]; exact HL.out⟩⟩
        case round =>
          obtain ⟨j, hj, rfl, hre⟩ := hrel
          by_cases hlt : n + 1 + j < m
          · exfalso; omega
          · obtain hjm : n + 1 + j = m := by omega
            have hj3 : ¬ (j : Int) < (m : Int) - ((n : Int) + 1) := by omega
            have hR := hre.out.2.2
            rw [rfirst_end (by rw [← EM.out]; omega)] at hR
            cases hR
            have HT := Lib.hid hre.out.2.1
            have x0 := HT.out.h4.cell 0 _ rfl
            have x1 := HT.out.h4.cell 1 _ rfl
            have x2 := HT.out.h4.cell 2 _ rfl
            have f0 := HT.out.h4.frozen 0
            have f1 := HT.out.h4.frozen 1
            have f2 := HT.out.h4.frozen 2
            have y0 := HT.out.h5.cell 0 _ rfl
            have y1 := HT.out.h5.cell 1 _ rfl
            have y2 := HT.out.h5.cell 2 _ rfl
            have g0 := HT.out.h5.frozen 0
            have g1 := HT.out.h5.frozen 1
            have g2 := HT.out.h5.frozen 2
            have hne45 : w.heap.size + 1 + 1 ≠ w.heap.size + 1 := by omega
            have HBZ := Lib.hid hre.out.1
            go_wp2_with fail
            refine bodyPost_ret (results_val3 (x := Val.nil) (y := Val.nil) rfl _ rfl rfl rfl ((((((HT.out.h4.setSame 0 _).setSame 1 _).setSame 2 _).setOther (Ne.symm hne45) _).setOther (Ne.symm hne45) _).setOther (Ne.symm hne45) _) ((((((HT.out.h5.setOther hne45 _).setOther hne45 _).setOther hne45 _).setSame 0 _).setSame 1 _).setSame 2 _)) rfl ⟨rfl, ?_⟩
            exact (((((HBZ.out.setCell (by simp) _).setCell (by simp) _).setCell (by simp) _).setCell (by simp; omega) _).setCell (by simp; omega) _).setCell (by simp; omega) _
      case inr =>
        go_loopw [30] (fun ii wr => ∃ j : Nat, n + 1 + j ≤ m ∧ ii = .int .i64 j ∧ Hid (Below w.heap.size w wr ∧ Two wr (w.heap.size + 1) ∧ firstLive (L.drop (n + 1 + j)) = (R1, R2))) (fun ii _ => m - (n + 1) - (intOf ii).toNat)
        case atStart => exact ⟨0, by omega, rfl, Lib.hid ⟨HB3.out, HT3.out, by rw [Nat.add_zero]; exact HL.out⟩⟩
        case round =>
          obtain ⟨j, hj, rfl, hre⟩ := hrel
          by_cases hlt : n + 1 + j < m
          · have hjl : n + 1 + j < L.length := by rw [← EM.out]; exact hlt
            obtain ⟨y, hy⟩ : ∃ y, L[n + 1 + j]? = some y := ⟨_, List.getElem?_eq_getElem hjl⟩
            obtain ⟨g', he, hcell⟩ := HC.out wr hre.out.1 (n + 1 + j) y hy
            cases he
            rw [show (n + 1 + j) * 6 = (n + 1) * 6 + j * 6 by omega] at hcell
            have hj0 : (0 : Int) ≤ (j : Int) := by omega
            have hj1 : (j : Int) < (m : Int) - ((n : Int) + 1) := by omega
            have hj2 : n + 1 + j < m := hlt
            have u0 := hcell 0 _ (by decide) rfl
            have u1 := hcell 1 _ (by decide) rfl
            have u2 := hcell 2 _ (by decide) rfl
            have u3 := hcell 3 _ (by decide) rfl
            have u4 := hcell 4 _ (by decide) rfl
            have u5 := hcell 5 _ (by decide) rfl
            rw [Nat.add_zero] at u0
            have HY := Lib.hid hy
            clear hcell hjl hy
            obtain ⟨⟨k1, k2, k3⟩, ⟨v1, v2, v3⟩⟩ := y
            have HB2 : Hid (Below wr.heap.size wr (wr.alloc (.cells #[.int .i64 k1, .int .i64 k2, .string k3, .int .i64 v1, .int .i64 v2, .string v3] 197))) := Lib.hid ((Below.refl _ _).alloc (Nat.le_refl _) _)
            have HBX : Hid (Blk (wr.alloc (.cells #[.int .i64 k1, .int .i64 k2, .string k3, .int .i64 v1, .int .i64 v2, .string v3] 197)) wr.heap.size 197 [.int .i64 k1, .int .i64 k2, .string k3, .int .i64 v1, .int .i64 v2, .string v3]) := Lib.hid (Blk.new wr [.int .i64 k1, .int .i64 k2, .string k3, .int .i64 v1, .int .i64 v2, .string v3] 197)
            by_cases hvk : v1 = 0
            · have HS := Lib.hid ((rfirst_skip HY.out hvk).trans hre.out.2.2)
              have HN := Lib.hid hvk
              subst hvk
              go_wp2_with fail
              go_roundw
              case rel => exact ⟨j + 1, by omega, by go_num, Lib.hid ⟨hre.out.1.trans (HB2.out.mono hre.out.1.size), hre.out.2.1.below HB2.out, HS.out⟩⟩
              case measure => simp [intOf]; omega
            · have hR := (rfirst_hit HY.out hvk).symm.trans hre.out.2.2
              cases hR
              have hvk' : (v1 != 0) = true := by simp [hvk]
              go_upto_region 11 with (fail)
              have HT := Lib.hid (hre.out.2.1.below HB2.out)
              have hne4 : w.heap.size + 1 ≠ wr.heap.size := by have := hre.out.2.1.h4.lt; omega
              have hne5 : w.heap.size + 1 + 1 ≠ wr.heap.size := by have := hre.out.2.1.h5.lt; omega
              clear u0 u1 u2 u3 u4 u5
              have p0 : ∀ W, Blk W wr.heap.size 197 [.int .i64 k1, .int .i64 k2, .string k3, .int .i64 v1, .int .i64 v2, .string v3] → W.cell? ⟨wr.heap.size, 0, none⟩ = some (.int .i64 k1) := fun W hW => hW.cell 0 _ rfl
              have p1 : ∀ W, Blk W wr.heap.size 197 [.int .i64 k1, .int .i64 k2, .string k3, .int .i64 v1, .int .i64 v2, .string v3] → W.cell? ⟨wr.heap.size, 1, none⟩ = some (.int .i64 k2) := fun W hW => hW.cell 1 _ rfl
              have p2 : ∀ W, Blk W wr.heap.size 197 [.int .i64 k1, .int .i64 k2, .string k3, .int .i64 v1, .int .i64 v2, .string v3] → W.cell? ⟨wr.heap.size, 2, none⟩ = some (.string k3) := fun W hW => hW.cell 2 _ rfl
              have p3 : ∀ W, Blk W wr.heap.size 197 [.int .i64 k1, .int .i64 k2, .string k3, .int .i64 v1, .int .i64 v2, .string v3] → W.cell? ⟨wr.heap.size, 3, none⟩ = some (.int .i64 v1) := fun W hW => hW.cell 3 _ rfl
              have p4 : ∀ W, Blk W wr.heap.size 197 [.int .i64 k1, .int .i64 k2, .string k3, .int .i64 v1, .int .i64 v2, .string v3] → W.cell? ⟨wr.heap.size, 4, none⟩ = some (.int .i64 v2) := fun W hW => hW.cell 4 _ rfl
              have p5 : ∀ W, Blk W wr.heap.size 197 [.int .i64 k1, .int .i64 k2, .string k3, .int .i64 v1, .int .i64 v2, .string v3] → W.cell? ⟨wr.heap.size, 5, none⟩ = some (.string v3) := fun W hW => hW.cell 5 _ rfl
              obtain ⟨w4, hw4⟩ : ∃ w4, w4 = wr.alloc (.cells #[.int .i64 k1, .int .i64 k2, .string k3, .int .i64 v1, .int .i64 v2, .string v3] 197) := ⟨_, rfl⟩
              rw [← hw4] at HB2 HBX HT ⊢
              clear hw4
              have hS0 : Blk ({ w4 with drawn := w4.drawn + 1 } : World) wr.heap.size 197 [.int .i64 k1, .int .i64 k2, .string k3, .int .i64 v1, .int .i64 v2, .string v3] := HBX.out
              have HB5 : Hid (Below wr.heap.size wr ({ w4 with drawn := w4.drawn + 1 } : World)) := Lib.hid ⟨HB2.out.os, HB2.out.tape, HB2.out.output, HB2.out.size, HB2.out.block⟩
              have HT5 : Hid (Two ({ w4 with drawn := w4.drawn + 1 } : World) (w.heap.size + 1)) := Lib.hid ⟨HT.out.h4, HT.out.h5⟩
              refine RG.region_F (fun W => Blk W wr.heap.size 197 [.int .i64 k1, .int .i64 k2, .string k3, .int .i64 v1, .int .i64 v2, .string v3]) 6 (by kernel_rfl) ?_
              generalize ({ w4 with drawn := w4.drawn + 1 } : World) = w5 at hS0 HB5 HT5 ⊢
              clear HB2 HBX HT
              refine RG.takeF 0 (oi := ⟨some 38, _, _, _, _, _⟩) (v := ?_) rfl (by kernel_rfl) (by kernel_rfl) (by kernel_rfl) (by kernel_rfl) (fun _ _ _ h => h) (Or.inl ⟨by rfl, ?hz0⟩) hS0 ?sest0
              case hz0 => (intro W hW; (try dsimp only at hW); go_simp; try with_reducible rfl)
              simp only [Act.put, List.setIfInBounds_toArray, List.set_cons_zero, List.set_cons_succ]
              refine RG.takeF 1 (oi := ⟨some 39, _, _, _, _, _⟩) (v := ?_) rfl (by kernel_rfl) (by kernel_rfl) (by kernel_rfl) (by kernel_rfl) (fun _ _ _ h => h) (Or.inl ⟨by rfl, ?hz1⟩) hS0 ?sest1
              case hz1 => (intro W hW; (try dsimp only at hW); go_simp; try with_reducible rfl)
              simp only [Act.put, List.setIfInBounds_toArray, List.set_cons_zero, List.set_cons_succ]
              refine RG.takeF 2 (oi := ⟨some 40, _, _, _, _, _⟩) (v := ?_) rfl (by kernel_rfl) (by kernel_rfl) (by kernel_rfl) (by kernel_rfl) (fun _ _ _ h => h) (Or.inl ⟨by rfl, ?hz2⟩) hS0 ?sest2
              case hz2 => (intro W hW; (try dsimp only at hW); go_simp; try with_reducible rfl)
              simp only [Act.put, List.setIfInBounds_toArray, List.set_cons_zero, List.set_cons_succ]
              refine RG.takeF 3 (oi := ⟨some 41, _, _, _, _, _⟩) (v := ?_) rfl (by kernel_rfl) (by kernel_rfl) (by kernel_rfl) (by kernel_rfl) (fun _ _ _ h => h) (Or.inl ⟨by rfl, ?hz3⟩) hS0 ?sest3
              case hz3 => (intro W hW; (try dsimp only at hW); go_simp; try with_reducible rfl)
              simp only [Act.put, List.setIfInBounds_toArray, List.set_cons_zero, List.set_cons_succ]
              have x0 := HT5.out.h4.cell 0 _ rfl
              have x1 := HT5.out.h4.cell 1 _ rfl
              have x2 := HT5.out.h4.cell 2 _ rfl
              have f0 := HT5.out.h4.frozen 0
              have f1 := HT5.out.h4.frozen 1
              have f2 := HT5.out.h4.frozen 2
              refine RG.oneF 4 (by kernel_rfl) (by decide) ?_
              refine RG.wpOp_plain rfl rfl fun K hK => ?_
              go_simp
              refine hK _ _ ⟨(((hS0.setOther (Ne.symm hne4) _).setOther (Ne.symm hne4) _).setOther (Ne.symm hne4) _), ?_⟩
              clear hK K
              try simp only [Act.put, List.setIfInBounds_toArray, List.set_cons_zero, List.set_cons_succ]
              have hne45 : w.heap.size + 1 + 1 ≠ w.heap.size + 1 := by omega
              have hh5 := ((HT5.out.h5.setOther (a := ⟨w.heap.size + 1, 0, none⟩) hne45 (.int .i64 k1)).setOther (a := ⟨w.heap.size + 1, 1, none⟩) hne45 (.int .i64 k2)).setOther (a := ⟨w.heap.size + 1, 2, none⟩) hne45 (.string k3)
              have y0 := HT5.out.h5.cell 0 _ rfl
              have y1 := HT5.out.h5.cell 1 _ rfl
              have y2 := HT5.out.h5.cell 2 _ rfl
              have g0 := HT5.out.h5.frozen 0
              have g1 := HT5.out.h5.frozen 1
              have g2 := HT5.out.h5.frozen 2
              refine RG.oneF 5 (by kernel_rfl) (by decide) ?_
              refine RG.wpOp_plain rfl rfl fun K hK => ?_
              go_simp
              refine hK _ _ ⟨((((((hS0.setOther (Ne.symm hne4) _).setOther (Ne.symm hne4) _).setOther (Ne.symm hne4) _).setOther (Ne.symm hne5) _).setOther (Ne.symm hne5) _).setOther (Ne.symm hne5) _), ?_⟩
              clear hK K
              try simp only [Act.put, List.setIfInBounds_toArray, List.set_cons_zero, List.set_cons_succ]
              refine RG.lastF (by kernel_rfl) (by kernel_rfl) ?_
              refine RG.wpOp_plain rfl rfl fun K hK => ?_
              go_simp
              refine hK _ _ ?_
              clear hK K
              try simp only [Act.put, List.setIfInBounds_toArray, List.set_cons_zero, List.set_cons_succ]
              have HBZ := Lib.hid (hre.out.1.trans (HB5.out.mono hre.out.1.size))
              go_wp2
              refine bodyPost_ret (results_val3 (x := ⟨k1, k2, k3⟩) (y := ⟨v1, v2, v3⟩) rfl _ rfl rfl rfl ((((((HT5.out.h4.setSame 0 _).setSame 1 _).setSame 2 _).setOther (Ne.symm hne45) _).setOther (Ne.symm hne45) _).setOther (Ne.symm hne45) _) (((hh5.setSame 0 _).setSame 1 _).setSame 2 _)) rfl ⟨rfl, ?_⟩
              exact (((((HBZ.out.setCell (by simp) _).setCell (by simp) _).setCell (by simp) _).setCell (by simp; omega) _).setCell (by simp; omega) _).setCell (by simp; omega) _
          · obtain hjm : n + 1 + j = m := by omega
            have hj3 : ¬ (j : Int) < (m : Int) - ((n : Int) + 1) := by omega
            have hR := hre.out.2.2
            rw [rfirst_end (by rw [← EM.out]; omega)] at hR
            cases hR
            have HT := Lib.hid hre.out.2.1
            have x0 := HT.out.h4.cell 0 _ rfl
            have x1 := HT.out.h4.cell 1 _ rfl
            have x2 := HT.out.h4.cell 2 _ rfl
            have f0 := HT.out.h4.frozen 0
            have f1 := HT.out.h4.frozen 1
            have f2 := HT.out.h4.frozen 2
            have y0 := HT.out.h5.cell 0 _ rfl
            have y1 := HT.out.h5.cell 1 _ rfl
            have y2 := HT.out.h5.cell 2 _ rfl
            have g0 := HT.out.h5.frozen 0
            have g1 := HT.out.h5.frozen 1
            have g2 := HT.out.h5.frozen 2
            have hne45 : w.heap.size + 1 + 1 ≠ w.heap.size + 1 := by omega
            have HBZ := Lib.hid hre.out.1
            go_wp2_with fail
            refine bodyPost_ret (results_val3 (x := Val.nil) (y := Val.nil) rfl _ rfl rfl rfl ((((((HT.out.h4.setSame 0 _).setSame 1 _).setSame 2 _).setOther (Ne.symm hne45) _).setOther (Ne.symm hne45) _).setOther (Ne.symm hne45) _) ((((((HT.out.h5.setOther hne45 _).setOther hne45 _).setOther hne45 _).setSame 0 _).setSame 1 _).setSame 2 _)) rfl ⟨rfl, ?_⟩
            exact (((((HBZ.out.setCell (by simp) _).setCell (by simp) _).setCell (by simp) _).setCell (by simp; omega) _).setCell (by simp; omega) _).setCell (by simp; omega) _
    · have hv := HMIS.out hm
      cases hv
      have hne45 : w.heap.size + 1 + 1 ≠ w.heap.size + 1 := by omega
      have x0 := HT3.out.h4.cell 0 _ rfl
      have x1 := HT3.out.h4.cell 1 _ rfl
      have x2 := HT3.out.h4.cell 2 _ rfl
      have f0 := HT3.out.h4.frozen 0
      have f1 := HT3.out.h4.frozen 1
      have f2 := HT3.out.h4.frozen 2
      have y0 := HT3.out.h5.cell 0 _ rfl
      have y1 := HT3.out.h5.cell 1 _ rfl
      have y2 := HT3.out.h5.cell 2 _ rfl
      have g0 := HT3.out.h5.frozen 0
      have g1 := HT3.out.h5.frozen 1
      have g2 := HT3.out.h5.frozen 2
      clear hm HHIT HMIS HP
      go_wp2_with fail
      refine bodyPost_ret (results_val3 (x := Val.nil) (y := Val.nil) rfl _ rfl rfl rfl ((((((HT3.out.h4.setSame 0 _).setSame 1 _).setSame 2 _).setOther (Ne.symm hne45) _).setOther (Ne.symm hne45) _).setOther (Ne.symm hne45) _) ((((((HT3.out.h5.setOther hne45 _).setOther hne45 _).setOther hne45 _).setSame 0 _).setSame 1 _).setSame 2 _)) rfl ⟨rfl, ?_⟩
      exact (((((HB3.out.setCell (by simp) _).setCell (by simp) _).setCell (by simp) _).setCell (by simp; omega) _).setCell (by simp; omega) _).setCell (by simp; omega) _
end
end Go.Proofs.Ytmjfmfelbmbniaa
