/- Layer 13: Set. -/
import Derived.Test.YtmjfmfelbmbniaaDiQ
namespace Go.Proofs.Ytmjfmfelbmbniaa
open Go.RowKit Go.Maps HK ShM
set_option linter.unusedVariables false
set_option linter.unusedSimpArgs false
section
variable {w w' : World} {X : Nat → Prop} {d N : Nat} {L : Pairs}
set_option maxHeartbeats 8000000 in
set_option maxRecDepth 20000 in
theorem dset_calls (h : DAt w X d L N) (hN : N < 131072) (x v : Val) (hx : x.s.size ≤ maxLen) : Calls Try.prog 44 #[.pointer (some ⟨d, 0, none⟩), x.v, v.v] w fun e w' => e = .returned (.tuple #[.bool (setF L x v), .int .i64 (keyE x)]) ∧ ∃ X', DAt w' X' d (setL L x v) (N + 1) ∧ (∀ b, X' b → X b ∨ w.heap.size ≤ b) ∧ Chg X w w' := by
  have HD := Lib.hid h
  have HKY := Lib.hid (fun (W : World) => key_calls x W)
  have HO := Lib.hid (fun (W : World) => own_calls v W)
  have HB0 : Hid (Below w.heap.size w ((w.alloc (.cells #[.int .i64 x.k, .int .i64 x.n, .string x.s] 57)).alloc (.cells #[.int .i64 v.k, .int .i64 v.n, .string v.s] 57))) := Lib.hid (by (repeat (first | exact Below.refl _ _ | (refine Below.alloc ?_ (by simp <;> omega) _))))
  have HV0 : Hid (Blk ((w.alloc (.cells #[.int .i64 x.k, .int .i64 x.n, .string x.s] 57)).alloc (.cells #[.int .i64 v.k, .int .i64 v.n, .string v.s] 57)) (w.heap.size + 1) 57 [.int .i64 v.k, .int .i64 v.n, .string v.s]) := Lib.hid (by simpa using Blk.new (w.alloc (.cells #[.int .i64 x.k, .int .i64 x.n, .string x.s] 57)) [.int .i64 v.k, .int .i64 v.n, .string v.s] 57)
  cases hbad : x.bad with
  | true =>
    have hF : setF L x v = false := by unfold setF; rw [hbad]; rfl
    have hL : setL L x v = L := by unfold setL; rw [hbad]; rfl
    have hE : keyE x = 15 := by unfold keyE; rw [hbad]; rfl
    rw [hF, hL, hE]
    rw [hE] at HKY
    clear hF hL hE hbad h
    generalize keyV x = k at *
    obtain ⟨k1, k2, k3⟩ := k
    obtain ⟨x1, x2, x3⟩ := x
    obtain ⟨v1, v2, v3⟩ := v
    go_enter Try.func44, Try.ntmps44
    go_wp2_with (go_at_call 43; (with_reducible refine (HKY.out _).mono ?_); rintro e w1 ⟨rfl, hb⟩; have HB1 := Lib.hid (HB0.out.trans (hb.mono HB0.out.size)); clear hb; have HB1' : Hid (Below w.heap.size w (w1.alloc (.cells #[.int .i64 k1, .int .i64 k2, .string k3] 57))) := Lib.hid (HB1.out.alloc HB1.out.size _))
    go_ret2
    exact ⟨rfl, X, (HD.out.below HB1'.out).mono (by omega), fun b hb => .inl hb, Chg.ofBelow HB1'.out⟩
  | false =>
    have hE : keyE x = 0 := by unfold keyE; rw [hbad]; rfl
    have hkk := keyV_key x hbad
    have hcan := canon_key x hbad hx
    rw [hE] at HKY ⊢
    obtain ⟨es, ev, tb, T, h, hL, hNe, ho⟩ := ent_get h (keyV x)
    rw [hkk.1, hkk.2] at ho
    have HE := Lib.hid (fun (W : World) (h : DIn W X d es ev tb T) => entry_calls h (keyV x) hcan.2.2)
    have HI := Lib.hid h
    have HL := Lib.hid hL
    have HNE := Lib.hid hNe
    have HCAN := Lib.hid hcan
    have hsl : setL L x v = match getA L (keyV x) with
      | some _ => setA L (keyV x) v.own
      | none => if v.own.k = 0 then L else L ++ [(keyV x, v.own)] := by unfold setL; rw [hbad]; rfl
    have hsf : setF L x v = ((getA L (keyV x)).isNone && !decide (v.own.k = 0)) := by unfold setF; rw [hbad]; rfl
    have hlive0 : (0 : Int) ≤ liveL (absE es) ∧ (liveL (absE es) : Int) ≤ 131072 := ⟨by omega, by have h1 : liveL (absE es) ≤ (absE es).length := List.countP_le_length; have h2 := absE_len es; omega⟩
    clear hE hkk hcan hL hNe hbad
    rcases ho with ⟨h1, h2, i, v0, h3, h4, h5, h6, h7⟩ | ⟨h1, h2, h3, h8⟩
    · rw [h5] at HE
      rw [h7] at hsl hsf
      rw [hsl, hsf]
      obtain ⟨g, cap, hev, _⟩ := h.mem.cell_ent h4
      subst hev
      have hEP : entP (.slice (some ⟨g, 0, none⟩) es.length cap) (i : Int) = .pointer (some ⟨g, i * 7, none⟩) := by unfold entP; rw [if_neg (by omega), Int.toNat_natCast]
      rw [hEP] at HE
      have H4 := Lib.hid h4
      clear h h1 h2 h3 h4 h5 h6 h7 hEP hsl hsf hx HD
      generalize keyV x = k at *
      generalize v.own = o at *
      obtain ⟨k1, k2, k3⟩ := k
      obtain ⟨o1, o2, o3⟩ := o
      obtain ⟨x1, x2, x3⟩ := x
      obtain ⟨v1, v2, v3⟩ := v
      go_enter Try.func44, Try.ntmps44
      go_upto_region 7 with (first
        | (go_at_call 43; (with_reducible refine (HKY.out _).mono ?_); rintro e w1 ⟨rfl, hb⟩; have HB1 := Lib.hid (HB0.out.trans (hb.mono HB0.out.size)); have HV1 := Lib.hid (HV0.out.of (hb.block _ HV0.out.lt)); clear hb; have HB1' : Hid (Below w.heap.size w (w1.alloc (.cells #[.int .i64 k1, .int .i64 k2, .string k3] 57))) := Lib.hid (HB1.out.alloc HB1.out.size _); have HK1 := Lib.hid (Blk.new w1 [.int .i64 k1, .int .i64 k2, .string k3] 57); have HV1' := Lib.hid (HV1.out.alloc (.cells #[.int .i64 k1, .int .i64 k2, .string k3] 57)); have y0 := HV1'.out.cell 0 _ rfl; have y1 := HV1'.out.cell 1 _ rfl; have y2 := HV1'.out.cell 2 _ rfl)
        | (go_at_call 59; (with_reducible refine (HO.out _).mono ?_); rintro e w2 ⟨rfl, hb⟩; have HB2 := Lib.hid (HB1'.out.trans (hb.mono HB1'.out.size)); have HK2 := Lib.hid (HK1.out.of (hb.block _ HK1.out.lt)); have HV2 := Lib.hid (HV1'.out.of (hb.block _ HV1'.out.lt)); clear hb; have z0 := HV2.out.cell 0 _ rfl; have z1 := HV2.out.cell 1 _ rfl; have z2 := HV2.out.cell 2 _ rfl; have f0 := HV2.out.frozen 0; have f1 := HV2.out.frozen 1; have f2 := HV2.out.frozen 2))
      have hbv : w1.heap.size ≠ w.heap.size + 1 := by have := HV1.out.lt; omega
      have HVW := Lib.hid (((HV2.out.setSame 0 (.int .i64 o1)).setSame 1 (.int .i64 o2)).setSame 2 (.string o3))
      have HKW := Lib.hid (((HK2.out.setOther (a := ⟨w.heap.size + 1, 0, none⟩) hbv (.int .i64 o1)).setOther (a := ⟨w.heap.size + 1, 1, none⟩) hbv (.int .i64 o2)).setOther (a := ⟨w.heap.size + 1, 2, none⟩) hbv (.string o3))
      have HBW : Hid (Below w.heap.size w (((w2.setCell ⟨w.heap.size + 1, 0, none⟩ (.int .i64 o1)).setCell ⟨w.heap.size + 1, 1, none⟩ (.int .i64 o2)).setCell ⟨w.heap.size + 1, 2, none⟩ (.string o3))) := Lib.hid (((HB2.out.setCell (by simp) _).setCell (by simp) _).setCell (by simp) _)
      generalize ((w2.setCell ⟨w.heap.size + 1, 0, none⟩ (.int .i64 o1)).setCell ⟨w.heap.size + 1, 1, none⟩ (.int .i64 o2)).setCell ⟨w.heap.size + 1, 2, none⟩ (.string o3) = W at *
      have hbl : w1.heap.size < W.heap.size := HKW.out.lt
      have hvl : w.heap.size + 1 < W.heap.size := HVW.out.lt
      have hbw : w.heap.size ≤ w1.heap.size := HB1.out.size
      generalize w1.heap.size = bk at *
      generalize hbb : w.heap.size + 1 = bv at *
      have HBB := Lib.hid hbb
      have k0' := HKW.out.cell 0 _ rfl
      have k1' := HKW.out.cell 1 _ rfl
      have k2' := HKW.out.cell 2 _ rfl
      clear z0 z1 z2 f0 f1 f2 y0 y1 y2 HB2 HK2 HV2 HV1' HK1 HB1' HV1 HB1 hbb
      have hIW := HI.out.below HBW.out
      have HIW := Lib.hid hIW
      have HLO := Lib.hid (fun (W : World) => lives_calls ⟨o1, o2, o3⟩ W)
      have HLV := Lib.hid (fun (W : World) => lives_calls v0 W)
      go_upto_region 9 with (go_at_call 108; (with_reducible refine (HE.out _ HIW.out).mono ?_); rintro e w3 ⟨rfl, hb⟩; have HB3 := Lib.hid hb; clear hb)
      have HI3 := Lib.hid (HIW.out.below HB3.out)
      have HVW3 := Lib.hid (HVW.out.of (HB3.out.block _ HVW.out.lt))
      obtain ⟨lv, hlv⟩ : ∃ lv : Int, (liveL (absE es) : Int) = lv := ⟨_, rfl⟩
      rw [hlv] at hlive0
      have HLVE := Lib.hid hlv
      clear hlv hIW
      have q3 : ∀ W, Below w3.heap.size w3 W → W.cell? ⟨d, 3, none⟩ = some (.int .i64 lv) := fun W hW => by rw [← HLVE.out]; exact (HI3.out.below hW).mem.hd.cell 3 _ rfl
      have qe : ∀ W, Below w3.heap.size w3 W → W.cell? ⟨g, i * 7 + 3, none⟩ = some (.int .i64 v0.k) ∧ W.cell? ⟨g, i * 7 + 4, none⟩ = some (.int .i64 v0.n) ∧ W.cell? ⟨g, i * 7 + 5, none⟩ = some (.string v0.s) := fun W hW => by
        obtain ⟨g', cap', he, _, _, hc⟩ := (HI3.out.below hW).mem.cell_ent H4.out
        cases he
        exact ⟨hc 3 _ (by decide) rfl, hc 4 _ (by decide) rfl, hc 5 _ (by decide) rfl⟩
      have u3 := fun W hW => (qe W hW).1
      have u4 := fun W hW => (qe W hW).2.1
      have u5 := fun W hW => (qe W hW).2.2
      have p0 : ∀ W, Below w3.heap.size w3 W → W.cell? ⟨bv, 0, none⟩ = some (.int .i64 o1) := fun W hW => (HVW3.out.of (hW.block _ HVW3.out.lt)).cell 0 _ rfl
      have p1 : ∀ W, Below w3.heap.size w3 W → W.cell? ⟨bv, 1, none⟩ = some (.int .i64 o2) := fun W hW => (HVW3.out.of (hW.block _ HVW3.out.lt)).cell 1 _ rfl
      have p2 : ∀ W, Below w3.heap.size w3 W → W.cell? ⟨bv, 2, none⟩ = some (.string o3) := fun W hW => (HVW3.out.of (hW.block _ HVW3.out.lt)).cell 2 _ rfl
      clear qe
      have hB0 : Below w3.heap.size w3 ({ w3 with drawn := w3.drawn + 1 } : World) := ⟨rfl, rfl, rfl, Nat.le_refl _, fun _ _ => rfl⟩
      have HCZ := Lib.hid (HBW.out.trans (HB3.out.mono HBW.out.size))
      obtain ⟨v01, v02, v03⟩ := v0
      refine RG.region_F (Below w3.heap.size w3) 15 (by kernel_rfl) ?_
      have hS0 := hB0
      generalize ({ w3 with drawn := w3.drawn + 1 } : World) = w4 at hS0 hB0 ⊢
      refine RG.takeF 0 (oi := ⟨some 29, _, _, _, _, _⟩) (v := ?_) rfl (by kernel_rfl) (by kernel_rfl) (by kernel_rfl) (by kernel_rfl) (fun _ _ _ h => h) (Or.inl ⟨by rfl, ?hy0⟩) hS0 ?rest0
      case hy0 => (intro W hW; (try dsimp only at hW); go_simp; try with_reducible rfl)
      simp only [Act.put, List.setIfInBounds_toArray, List.set_cons_zero, List.set_cons_succ]
      refine RG.takeF 1 (oi := ⟨some 30, _, _, _, _, _⟩) (v := ?_) rfl (by kernel_rfl) (by kernel_rfl) (by kernel_rfl) (by kernel_rfl) (fun _ _ _ h => h) (Or.inl ⟨by rfl, ?hy1⟩) hS0 ?rest1
      case hy1 => (intro W hW; (try dsimp only at hW); go_simp; try with_reducible rfl)
      simp only [Act.put, List.setIfInBounds_toArray, List.set_cons_zero, List.set_cons_succ]
      refine RG.takeF 2 (oi := ⟨some 31, _, _, _, _, _⟩) (v := ?_) rfl (by kernel_rfl) (by kernel_rfl) (by kernel_rfl) (by kernel_rfl) (fun _ _ _ h => h) (Or.inl ⟨by rfl, ?hy2⟩) hS0 ?rest2
      case hy2 => (intro W hW; (try dsimp only at hW); go_simp; try with_reducible rfl)
      simp only [Act.put, List.setIfInBounds_toArray, List.set_cons_zero, List.set_cons_succ]
      refine RG.takeF 3 (oi := ⟨some 32, _, _, _, _, _⟩) (v := ?_) rfl (by kernel_rfl) (by kernel_rfl) (by kernel_rfl) (by kernel_rfl) (fun _ _ _ h => h) (Or.inl ⟨by rfl, ?hy3⟩) hS0 ?rest3
      case hy3 => (intro W hW; (try dsimp only at hW); go_simp; try with_reducible rfl)
      simp only [Act.put, List.setIfInBounds_toArray, List.set_cons_zero, List.set_cons_succ]
      refine RG.takeF 4 (oi := ⟨some 33, _, _, _, _, _⟩) (v := ?_) rfl (by kernel_rfl) (by kernel_rfl) (by kernel_rfl) (by kernel_rfl) (fun _ _ _ h => h) (Or.inl ⟨by rfl, ?hy4⟩) hS0 ?rest4
      case hy4 => (intro W hW; (try dsimp only at hW); go_simp; try with_reducible rfl)
      simp only [Act.put, List.setIfInBounds_toArray, List.set_cons_zero, List.set_cons_succ]
      refine RG.takeF 6 (oi := ⟨some 35, _, _, _, _, _⟩) (v := ?_) rfl (by kernel_rfl) (by kernel_rfl) (by kernel_rfl) (by kernel_rfl) (fun _ _ _ h => h) (Or.inl ⟨by rfl, ?hy6⟩) hS0 ?rest6
      case hy6 => (intro W hW; (try dsimp only at hW); go_simp; try with_reducible rfl)
      simp only [Act.put, List.setIfInBounds_toArray, List.set_cons_zero, List.set_cons_succ]
      refine RG.takeF 7 (oi := ⟨some 36, _, _, _, _, _⟩) (v := ?_) rfl (by kernel_rfl) (by kernel_rfl) (by kernel_rfl) (by kernel_rfl) (fun _ _ _ h => h) (Or.inl ⟨by rfl, ?hy7⟩) hS0 ?rest7
      case hy7 => (intro W hW; (try dsimp only at hW); go_simp; try with_reducible rfl)
      simp only [Act.put, List.setIfInBounds_toArray, List.set_cons_zero, List.set_cons_succ]
      refine RG.takeF 8 (oi := ⟨some 37, _, _, _, _, _⟩) (v := ?_) rfl (by kernel_rfl) (by kernel_rfl) (by kernel_rfl) (by kernel_rfl) (fun _ _ _ h => h) (Or.inl ⟨by rfl, ?hy8⟩) hS0 ?rest8
      case hy8 => (intro W hW; (try dsimp only at hW); go_simp; try with_reducible rfl)
      simp only [Act.put, List.setIfInBounds_toArray, List.set_cons_zero, List.set_cons_succ]
      refine RG.takeF 9 (oi := ⟨some 38, _, _, _, _, _⟩) (v := ?_) rfl (by kernel_rfl) (by kernel_rfl) (by kernel_rfl) (by kernel_rfl) (fun _ _ _ h => h) (Or.inl ⟨by rfl, ?hy9⟩) hS0 ?rest9
      case hy9 => (intro W hW; (try dsimp only at hW); go_simp; try with_reducible rfl)
      simp only [Act.put, List.setIfInBounds_toArray, List.set_cons_zero, List.set_cons_succ]
      refine RG.oneF 5 (by kernel_rfl) (by decide) ?_
      refine RG.wpOp_plain rfl rfl fun K hK => ?_
      go_simp
      with_reducible refine (HLO.out _).mono ?_
      rintro e w5 ⟨rfl, hb⟩
      have hB5 : Below w3.heap.size w3 w5 := hB0.trans (hb.mono hB0.size)
      refine hK _ _ ⟨hB5, ?_⟩
      clear hK K hb
      try simp only [Act.put, List.setIfInBounds_toArray, List.set_cons_zero, List.set_cons_succ]
      refine RG.oneF 10 (by kernel_rfl) (by decide) ?_
      refine RG.wpOp_plain rfl rfl fun K hK => ?_
      go_simp
      with_reducible refine (HLV.out _).mono ?_
      rintro e w6 ⟨rfl, hb⟩
      have hB6 : Below w3.heap.size w3 w6 := hB5.trans (hb.mono hB5.size)
      refine hK _ _ ⟨hB6, ?_⟩
      clear hK K hb
      try simp only [Act.put, List.setIfInBounds_toArray, List.set_cons_zero, List.set_cons_succ]
      have hl1 := lives_01 ⟨v01, v02, v03⟩
      have hl2 := lives_01 ⟨o1, o2, o3⟩
      obtain ⟨lx, hlx⟩ : ∃ lx, Val.lives ⟨v01, v02, v03⟩ = lx := ⟨_, rfl⟩
      obtain ⟨ly, hly⟩ : ∃ ly, Val.lives ⟨o1, o2, o3⟩ = ly := ⟨_, rfl⟩
      have HLX := Lib.hid hlx
      have HLY := Lib.hid hly
      rw [hlx] at hl1 ⊢
      rw [hly] at hl2 ⊢
      clear hlx hly
      refine RG.oneF 11 (by kernel_rfl) (by decide) ?_
      refine RG.wpOp_plain rfl rfl fun K hK => ?_
      go_simp
      refine hK _ _ ⟨hB6, ?_⟩
      clear hK K
      try simp only [Act.put, List.setIfInBounds_toArray, List.set_cons_zero, List.set_cons_succ]
      refine RG.oneF 12 (by kernel_rfl) (by decide) ?_
      refine RG.wpOp_plain rfl rfl fun K hK => ?_
      go_simp
      refine hK _ _ ⟨hB6, ?_⟩
      clear hK K
      try simp only [Act.put, List.setIfInBounds_toArray, List.set_cons_zero, List.set_cons_succ]
      refine RG.oneF 13 (by kernel_rfl) (by decide) ?_
      refine RG.wpOp_plain rfl rfl fun K hK => ?_
      go_simp
      refine hK _ _ ⟨hB6, ?_⟩
      clear hK K
      try simp only [Act.put, List.setIfInBounds_toArray, List.set_cons_zero, List.set_cons_succ]
      refine RG.oneF 14 (by kernel_rfl) (by decide) ?_
      refine RG.wpOp_plain rfl rfl fun K hK => ?_
      go_simp
      refine hK _ _ ⟨hB6, ?_⟩
      clear hK K
      try simp only [Act.put, List.setIfInBounds_toArray, List.set_cons_zero, List.set_cons_succ]
      have hI6 := HI3.out.below hB6
      have HI6 := Lib.hid hI6
      have HB6 := Lib.hid hB6
      have x3' := hI6.mem.hd.cell 3 _ rfl
      have f3 := hI6.mem.hd.frozen 3
      refine RG.lastF (by kernel_rfl) (by kernel_rfl) ?_
      refine RG.wpOp_plain rfl rfl fun K hK => ?_
      go_simp
      refine hK _ _ ?_
      clear hK K
      try simp only [Act.put, List.setIfInBounds_toArray, List.set_cons_zero, List.set_cons_succ]
      obtain ⟨g', cap', he, _, _, hcl⟩ := hI6.mem.cell_ent H4.out
      cases he
      have hdg : d ≠ g := blk_ne_row hI6.mem.hd hI6.mem.rows rfl (by decide)
      have hv6 := HVW3.out.of (HB6.out.block _ HVW3.out.lt)
      have hbd : bv ≠ d := by
        have h1 := HI.out.mem.hd.lt
        have h2 := HBB.out
        omega
      have hbg : bv ≠ g := by
        have h1 := (HI.out.mem.rows.lt g rfl).2
        have h2 := HBB.out
        omega
      have z0 := hv6.cell 0 _ rfl
      have z1 := hv6.cell 1 _ rfl
      have z2 := hv6.cell 2 _ rfl
      have y3 := hcl 3 _ (by decide) rfl
      have y4 := hcl 4 _ (by decide) rfl
      have y5 := hcl 5 _ (by decide) rfl
      have r3 := row_frozen hI6.mem.rows (i * 7 + 3)
      have r4 := row_frozen hI6.mem.rows (i * 7 + 4)
      have r5 := row_frozen hI6.mem.rows (i * 7 + 5)
      clear hI6 hv6 hcl hB6
      go_wp2
      go_ret2
      have HCF := Lib.hid (HCZ.out.trans (HB6.out.mono HCZ.out.size))
      have hg : X g := HI6.out.ownE g rfl
      have hdX : X d := HI6.out.ownD
      refine ⟨rfl, X, ⟨es.set i (some (⟨k1, k2, k3⟩, ⟨o1, o2, o3⟩)), _, tb, T, HI6.out.setv (o := ⟨o1, o2, o3⟩) H4.out _ (by rw [HLVE.out, HLX.out, HLY.out]), ?_, ?_⟩, fun b hb => .inl hb, ?_⟩
      · rw [← HL.out]
        exact absE_set HI6.out.uniq (getD_of_get H4.out)
      · rw [List.length_set]; have := HNE.out; omega
      · exact (((((Chg.ofBelow HCF.out).setCell (fun _ => hdX) _).setCell (fun _ => hg) _).setCell (fun _ => hg) _).setCell (fun _ => hg) _)
    · have hno : getA L (keyV x) = none := by
        rcases h8 with h8 | h8
        · cases h8
        · exact h8
      rw [h3] at HE
      rw [hno] at hsl hsf
      rw [hsl, hsf]
      have hab : ∀ i w', es.getD i none ≠ some (keyV x, w') := fun i w' hi => by
        have := getA_hit h.uniq hi
        rw [HL.out, hno] at this; cases this
      have HAB := Lib.hid hab
      rw [show entP ev (-1) = .pointer none from rfl] at HE
      obtain ⟨ea, ec, hev⟩ := ownsRow_form h.mem.rows
      subst hev
      clear h h1 h2 h3 h8 hno hab hsl hsf hx
      generalize keyV x = k at *
      generalize v.own = o at *
      obtain ⟨k1, k2, k3⟩ := k
      obtain ⟨o1, o2, o3⟩ := o
      obtain ⟨x1, x2, x3⟩ := x
      obtain ⟨v1, v2, v3⟩ := v
      have HLO := Lib.hid (fun (W : World) => lives_calls ⟨o1, o2, o3⟩ W)
      by_cases ho0 : o1 = 0
      · subst ho0
        rw [show Val.lives ⟨0, o2, o3⟩ = 0 from rfl] at HLO
        go_enter Try.func44, Try.ntmps44
        go_upto_region 7 with (first
          | (go_at_call 43; (with_reducible refine (HKY.out _).mono ?_); rintro e w1 ⟨rfl, hb⟩; have HB1 := Lib.hid (HB0.out.trans (hb.mono HB0.out.size)); have HV1 := Lib.hid (HV0.out.of (hb.block _ HV0.out.lt)); clear hb; have HB1' : Hid (Below w.heap.size w (w1.alloc (.cells #[.int .i64 k1, .int .i64 k2, .string k3] 57))) := Lib.hid (HB1.out.alloc HB1.out.size _); have HK1 := Lib.hid (Blk.new w1 [.int .i64 k1, .int .i64 k2, .string k3] 57); have HV1' := Lib.hid (HV1.out.alloc (.cells #[.int .i64 k1, .int .i64 k2, .string k3] 57)); have y0 := HV1'.out.cell 0 _ rfl; have y1 := HV1'.out.cell 1 _ rfl; have y2 := HV1'.out.cell 2 _ rfl)
          | (go_at_call 59; (with_reducible refine (HO.out _).mono ?_); rintro e w2 ⟨rfl, hb⟩; have HB2 := Lib.hid (HB1'.out.trans (hb.mono HB1'.out.size)); have HK2 := Lib.hid (HK1.out.of (hb.block _ HK1.out.lt)); have HV2 := Lib.hid (HV1'.out.of (hb.block _ HV1'.out.lt)); clear hb; have z0 := HV2.out.cell 0 _ rfl; have z1 := HV2.out.cell 1 _ rfl; have z2 := HV2.out.cell 2 _ rfl; have f0 := HV2.out.frozen 0; have f1 := HV2.out.frozen 1; have f2 := HV2.out.frozen 2))
        have hbv : w1.heap.size ≠ w.heap.size + 1 := by have := HV1.out.lt; omega
        have HVW := Lib.hid (((HV2.out.setSame 0 (.int .i64 0)).setSame 1 (.int .i64 o2)).setSame 2 (.string o3))
        have HKW := Lib.hid (((HK2.out.setOther (a := ⟨w.heap.size + 1, 0, none⟩) hbv (.int .i64 0)).setOther (a := ⟨w.heap.size + 1, 1, none⟩) hbv (.int .i64 o2)).setOther (a := ⟨w.heap.size + 1, 2, none⟩) hbv (.string o3))
        have HBW : Hid (Below w.heap.size w (((w2.setCell ⟨w.heap.size + 1, 0, none⟩ (.int .i64 0)).setCell ⟨w.heap.size + 1, 1, none⟩ (.int .i64 o2)).setCell ⟨w.heap.size + 1, 2, none⟩ (.string o3))) := Lib.hid (((HB2.out.setCell (by simp) _).setCell (by simp) _).setCell (by simp) _)
        generalize ((w2.setCell ⟨w.heap.size + 1, 0, none⟩ (.int .i64 0)).setCell ⟨w.heap.size + 1, 1, none⟩ (.int .i64 o2)).setCell ⟨w.heap.size + 1, 2, none⟩ (.string o3) = W at *
        have hbl : w1.heap.size < W.heap.size := HKW.out.lt
        have hvl : w.heap.size + 1 < W.heap.size := HVW.out.lt
        have hbw : w.heap.size ≤ w1.heap.size := HB1.out.size
        generalize w1.heap.size = bk at *
        generalize hbb : w.heap.size + 1 = bv at *
        have HBB := Lib.hid hbb
        have k0' := HKW.out.cell 0 _ rfl
        have k1' := HKW.out.cell 1 _ rfl
        have k2' := HKW.out.cell 2 _ rfl
        clear z0 z1 z2 f0 f1 f2 y0 y1 y2 HB2 HK2 HV2 HV1' HK1 HB1' HV1 HB1 hbb
        have HIW := Lib.hid (HI.out.below HBW.out)
        go_wp2_with (first
          | (go_at_call 108; (with_reducible refine (HE.out _ HIW.out).mono ?_); rintro e w3 ⟨rfl, hb⟩; have HB3 := Lib.hid (HBW.out.trans (hb.mono HBW.out.size)); have hv3 := HVW.out.of (hb.block _ HVW.out.lt); have z0 := hv3.cell 0 _ rfl; have z1 := hv3.cell 1 _ rfl; have z2 := hv3.cell 2 _ rfl; clear hb hv3)
          | (go_at_call 109; (with_reducible refine (HLO.out _).mono ?_); rintro e w4 ⟨rfl, hb⟩; have HB4 := Lib.hid (HB3.out.trans (hb.mono HB3.out.size)); clear hb))
        go_ret2
        exact ⟨rfl, X, (HD.out.below HB4.out).mono (by omega), fun b hb => .inl hb, Chg.ofBelow HB4.out⟩
      · rw [show Val.lives ⟨o1, o2, o3⟩ = 1 from if_neg ho0] at HLO
        rw [if_neg (show ¬ (⟨o1, o2, o3⟩ : Val).k = 0 from ho0), show decide ((⟨o1, o2, o3⟩ : Val).k = 0) = false from decide_eq_false ho0]
        have hT1 := HI.out.tab.top
        have hE1 := HI.out.tab.fill
        obtain ⟨m, hm⟩ : ∃ m, m = es.length := ⟨_, rfl⟩
        obtain ⟨n, hn⟩ : ∃ n, n = T.length := ⟨_, rfl⟩
        have EM := Lib.hid hm
        have EN := Lib.hid hn
        rw [← hm, ← hn] at hE1
        rw [← hn] at hT1
        clear hm hn
        by_cases hfl : 4 * (m + 1) ≤ 3 * n
        · have hfl' : ¬ (3 * (n : Int) < 4 * ((m : Int) + 1)) := by omega
          go_enter Try.func44, Try.ntmps44
          go_upto_region 7 with (first
            | (go_at_call 43; (with_reducible refine (HKY.out _).mono ?_); rintro e w1 ⟨rfl, hb⟩; have HB1 := Lib.hid (HB0.out.trans (hb.mono HB0.out.size)); have HV1 := Lib.hid (HV0.out.of (hb.block _ HV0.out.lt)); clear hb; have HB1' : Hid (Below w.heap.size w (w1.alloc (.cells #[.int .i64 k1, .int .i64 k2, .string k3] 57))) := Lib.hid (HB1.out.alloc HB1.out.size _); have HK1 := Lib.hid (Blk.new w1 [.int .i64 k1, .int .i64 k2, .string k3] 57); have HV1' := Lib.hid (HV1.out.alloc (.cells #[.int .i64 k1, .int .i64 k2, .string k3] 57)); have y0 := HV1'.out.cell 0 _ rfl; have y1 := HV1'.out.cell 1 _ rfl; have y2 := HV1'.out.cell 2 _ rfl)
            | (go_at_call 59; (with_reducible refine (HO.out _).mono ?_); rintro e w2 ⟨rfl, hb⟩; have HB2 := Lib.hid (HB1'.out.trans (hb.mono HB1'.out.size)); have HK2 := Lib.hid (HK1.out.of (hb.block _ HK1.out.lt)); have HV2 := Lib.hid (HV1'.out.of (hb.block _ HV1'.out.lt)); clear hb; have z0 := HV2.out.cell 0 _ rfl; have z1 := HV2.out.cell 1 _ rfl; have z2 := HV2.out.cell 2 _ rfl; have f0 := HV2.out.frozen 0; have f1 := HV2.out.frozen 1; have f2 := HV2.out.frozen 2))
          have hbv : w1.heap.size ≠ w.heap.size + 1 := by have := HV1.out.lt; omega
          have HVW := Lib.hid (((HV2.out.setSame 0 (.int .i64 o1)).setSame 1 (.int .i64 o2)).setSame 2 (.string o3))
          have HKW := Lib.hid (((HK2.out.setOther (a := ⟨w.heap.size + 1, 0, none⟩) hbv (.int .i64 o1)).setOther (a := ⟨w.heap.size + 1, 1, none⟩) hbv (.int .i64 o2)).setOther (a := ⟨w.heap.size + 1, 2, none⟩) hbv (.string o3))
          have HBW : Hid (Below w.heap.size w (((w2.setCell ⟨w.heap.size + 1, 0, none⟩ (.int .i64 o1)).setCell ⟨w.heap.size + 1, 1, none⟩ (.int .i64 o2)).setCell ⟨w.heap.size + 1, 2, none⟩ (.string o3))) := Lib.hid (((HB2.out.setCell (by simp) _).setCell (by simp) _).setCell (by simp) _)
          generalize ((w2.setCell ⟨w.heap.size + 1, 0, none⟩ (.int .i64 o1)).setCell ⟨w.heap.size + 1, 1, none⟩ (.int .i64 o2)).setCell ⟨w.heap.size + 1, 2, none⟩ (.string o3) = W at *
          have hbl : w1.heap.size < W.heap.size := HKW.out.lt
          have hvl : w.heap.size + 1 < W.heap.size := HVW.out.lt
          have hbw : w.heap.size ≤ w1.heap.size := HB1.out.size
          generalize w1.heap.size = bk at *
          generalize hbb : w.heap.size + 1 = bv at *
          have HBB := Lib.hid hbb
          have k0' := HKW.out.cell 0 _ rfl
          have k1' := HKW.out.cell 1 _ rfl
          have k2' := HKW.out.cell 2 _ rfl
          clear z0 z1 z2 f0 f1 f2 y0 y1 y2 HB2 HK2 HV2 HV1' HK1 HB1' HV1 HB1 hbb
          have HIW := Lib.hid (HI.out.below HBW.out)
          go_upto_region 14 with (first
            | (go_at_call 108; (with_reducible refine (HE.out _ HIW.out).mono ?_); rintro e w3 ⟨rfl, hb⟩; have HB3 := Lib.hid (HBW.out.trans (hb.mono HBW.out.size)); have HI3 := Lib.hid (HIW.out.below hb); have HK3 := Lib.hid (HKW.out.of (hb.block _ HKW.out.lt)); have HV3 := Lib.hid (HVW.out.of (hb.block _ HVW.out.lt)); have z0 := HV3.out.cell 0 _ rfl; have z1 := HV3.out.cell 1 _ rfl; have z2 := HV3.out.cell 2 _ rfl; clear hb)
            | (go_at_call 109; (with_reducible refine (HLO.out _).mono ?_); rintro e w4 ⟨rfl, hb⟩; have HB4 := Lib.hid (HB3.out.trans (hb.mono HB3.out.size)); have HI4 := Lib.hid (HI3.out.below hb); have HK4 := Lib.hid (HK3.out.of (hb.block _ HK3.out.lt)); have HV4 := Lib.hid (HV3.out.of (hb.block _ HV3.out.lt)); clear hb; have c0 := HI4.out.mem.hd.cell 0 _ rfl; have c1 := HI4.out.mem.hd.cell 1 _ rfl; rw [← EM.out] at c0; rw [← EN.out] at c1))
          go_quiet (fail)
          have hdr : Below w4.heap.size w4 (w4.drewN nq) := Below.drewN (Below.refl _ _) _
          have HIA := Lib.hid (HI4.out.below hdr)
          have HKA := Lib.hid (HK4.out.of (hdr.block _ HK4.out.lt))
          have HVA := Lib.hid (HV4.out.of (hdr.block _ HV4.out.lt))
          have HCA := Lib.hid (Chg.ofBelow (B := X) (HB4.out.trans (hdr.mono HB4.out.size)))
          have HX2 : Hid (∀ b, X b → X b ∨ w.heap.size ≤ b) := Lib.hid (fun b hb => .inl hb)
          have HF2 : Hid (4 * (es.length + 1) ≤ 3 * T.length) := Lib.hid (by rw [← EM.out, ← EN.out]; exact hfl)
          have HLL := HL
          have hdw : d < w.heap.size := HI.out.mem.hd.lt
          have HAB2 := HAB
          have HNE2 := HNE
          clear c0 c1 hfl hE1 hT1 EM EN z0 z1 z2 HI4 HI3 HK4 HK3 HV4 HV3 HB4 HB3
          generalize w4.drewN nq = wa at *
          have hd0 := HIA.out.mem.hd.lt
          have HFI := Lib.hid (fun (W : World) (h : DIn W X d es (.slice ea es.length ec) tb T) => h.find ⟨k1, k2, k3⟩ HCAN.out.2.2)
          have e0 := HKA.out.cell 0 _ rfl
          have e1 := HKA.out.cell 1 _ rfl
          have e2 := HKA.out.cell 2 _ rfl
          obtain ⟨at', hat⟩ : ∃ at', at' = (findM T es ⟨k1, k2, k3⟩).1 := ⟨_, rfl⟩
          have HAT := Lib.hid hat
          rw [← hat] at HFI
          clear hat
          generalize (findM T es ⟨k1, k2, k3⟩).2 = pl at *
          go_upto_region 17 with (go_at_call 111; (with_reducible refine (HFI.out _ HIA.out).mono ?_); rintro e wb ⟨rfl, hb⟩; have HIB := Lib.hid (HIA.out.below hb); have HKB := Lib.hid (HKA.out.of (hb.block _ HKA.out.lt)); have HVB := Lib.hid (HVA.out.of (hb.block _ HVA.out.lt)); have HCB := Lib.hid (HCA.out.trans (Chg.ofBelow hb) (fun b hb h => h)); clear hb)
          have hB0 : Below wb.heap.size wb ({ wb with drawn := wb.drawn + 1 } : World) := ⟨rfl, rfl, rfl, Nat.le_refl _, fun _ _ => rfl⟩
          have HIC := Lib.hid (HIB.out.below hB0)
          have HKC := Lib.hid (HKB.out.of (hB0.block _ HKB.out.lt))
          have HVC := Lib.hid (HVB.out.of (hB0.block _ HVB.out.lt))
          have HCC := Lib.hid (HCB.out.trans (Chg.ofBelow (B := X) hB0) (fun b hb h => h))
          refine RG.region_F (Chg (fun b => (Value.slice ea es.length ec).ownBlock = some b) ({ wb with drawn := wb.drawn + 1 } : World)) 12 (by kernel_rfl) ?_
          clear hB0
          generalize ({ wb with drawn := wb.drawn + 1 } : World) = wc at *
          have q0 : ∀ W, Chg (fun b => (Value.slice ea es.length ec).ownBlock = some b) wc W → W.cell? ⟨d, 0, none⟩ = some (.slice ea es.length ec) := fun W hW => (HIC.out.mem.hd.of (hW.block _ HIC.out.mem.hd.lt (fun hg => blk_ne_row HIC.out.mem.hd HIC.out.mem.rows hg (by decide) rfl))).cell 0 _ rfl
          have qk : ∀ W, Chg (fun b => (Value.slice ea es.length ec).ownBlock = some b) wc W → Blk W bk 57 [.int .i64 k1, .int .i64 k2, .string k3] := fun W hW => HKC.out.of (hW.block _ HKC.out.lt (fun hg => blk_ne_row HKC.out HIC.out.mem.rows hg (by decide) rfl))
          have qv : ∀ W, Chg (fun b => (Value.slice ea es.length ec).ownBlock = some b) wc W → Blk W bv 57 [.int .i64 o1, .int .i64 o2, .string o3] := fun W hW => HVC.out.of (hW.block _ HVC.out.lt (fun hg => blk_ne_row HVC.out HIC.out.mem.rows hg (by decide) rfl))
          have q1 : ∀ W, Chg (fun b => (Value.slice ea es.length ec).ownBlock = some b) wc W → W.cell? ⟨bk, 0, none⟩ = some (.int .i64 k1) := fun W hW => (qk W hW).cell 0 _ rfl
          have q2 : ∀ W, Chg (fun b => (Value.slice ea es.length ec).ownBlock = some b) wc W → W.cell? ⟨bk, 1, none⟩ = some (.int .i64 k2) := fun W hW => (qk W hW).cell 1 _ rfl
          have q3 : ∀ W, Chg (fun b => (Value.slice ea es.length ec).ownBlock = some b) wc W → W.cell? ⟨bk, 2, none⟩ = some (.string k3) := fun W hW => (qk W hW).cell 2 _ rfl
          have q4 : ∀ W, Chg (fun b => (Value.slice ea es.length ec).ownBlock = some b) wc W → W.cell? ⟨bv, 0, none⟩ = some (.int .i64 o1) := fun W hW => (qv W hW).cell 0 _ rfl
          have q5 : ∀ W, Chg (fun b => (Value.slice ea es.length ec).ownBlock = some b) wc W → W.cell? ⟨bv, 1, none⟩ = some (.int .i64 o2) := fun W hW => (qv W hW).cell 1 _ rfl
          have q6 : ∀ W, Chg (fun b => (Value.slice ea es.length ec).ownBlock = some b) wc W → W.cell? ⟨bv, 2, none⟩ = some (.string o3) := fun W hW => (qv W hW).cell 2 _ rfl
          have hS0 : Chg (fun b => (Value.slice ea es.length ec).ownBlock = some b) wc wc := Chg.refl _ _
          clear qk qv
          refine RG.takeF 0 (oi := ⟨some 73, _, _, _, _, _⟩) (v := ?_) rfl (by kernel_rfl) (by kernel_rfl) (by kernel_rfl) (by kernel_rfl) (fun _ _ _ h => h) (Or.inl ⟨by rfl, ?hyd0⟩) hS0 ?restd0
          case hyd0 => (intro W hW; (try dsimp only at hW); go_simp; try with_reducible rfl)
          simp only [Act.put, List.setIfInBounds_toArray, List.set_cons_zero, List.set_cons_succ]
          refine RG.takeF 1 (oi := ⟨some 74, _, _, _, _, _⟩) (v := ?_) rfl (by kernel_rfl) (by kernel_rfl) (by kernel_rfl) (by kernel_rfl) (fun _ _ _ h => h) (Or.inl ⟨by rfl, ?hyd1⟩) hS0 ?restd1
          case hyd1 => (intro W hW; (try dsimp only at hW); go_simp; try with_reducible rfl)
          simp only [Act.put, List.setIfInBounds_toArray, List.set_cons_zero, List.set_cons_succ]
          refine RG.takeF 2 (oi := ⟨some 75, _, _, _, _, _⟩) (v := ?_) rfl (by kernel_rfl) (by kernel_rfl) (by kernel_rfl) (by kernel_rfl) (fun _ _ _ h => h) (Or.inl ⟨by rfl, ?hyd2⟩) hS0 ?restd2
          case hyd2 => (intro W hW; (try dsimp only at hW); go_simp; try with_reducible rfl)
          simp only [Act.put, List.setIfInBounds_toArray, List.set_cons_zero, List.set_cons_succ]
          refine RG.takeF 3 (oi := ⟨some 76, _, _, _, _, _⟩) (v := ?_) rfl (by kernel_rfl) (by kernel_rfl) (by kernel_rfl) (by kernel_rfl) (fun _ _ _ h => h) (Or.inl ⟨by rfl, ?hyd3⟩) hS0 ?restd3
          case hyd3 => (intro W hW; (try dsimp only at hW); go_simp; try with_reducible rfl)
          simp only [Act.put, List.setIfInBounds_toArray, List.set_cons_zero, List.set_cons_succ]
          refine RG.takeF 4 (oi := ⟨some 77, _, _, _, _, _⟩) (v := ?_) rfl (by kernel_rfl) (by kernel_rfl) (by kernel_rfl) (by kernel_rfl) (fun _ _ _ h => h) (Or.inl ⟨by rfl, ?hyd4⟩) hS0 ?restd4
          case hyd4 => (intro W hW; (try dsimp only at hW); go_simp; try with_reducible rfl)
          simp only [Act.put, List.setIfInBounds_toArray, List.set_cons_zero, List.set_cons_succ]
          refine RG.takeF 5 (oi := ⟨some 78, _, _, _, _, _⟩) (v := ?_) rfl (by kernel_rfl) (by kernel_rfl) (by kernel_rfl) (by kernel_rfl) (fun _ _ _ h => h) (Or.inl ⟨by rfl, ?hyd5⟩) hS0 ?restd5
          case hyd5 => (intro W hW; (try dsimp only at hW); go_simp; try with_reducible rfl)
          simp only [Act.put, List.setIfInBounds_toArray, List.set_cons_zero, List.set_cons_succ]
          refine RG.takeF 6 (oi := ⟨some 79, _, _, _, _, _⟩) (v := ?_) rfl (by kernel_rfl) (by kernel_rfl) (by kernel_rfl) (by kernel_rfl) (fun _ _ _ h => h) (Or.inl ⟨by rfl, ?hyd6⟩) hS0 ?restd6
          case hyd6 => (intro W hW; (try dsimp only at hW); go_simp; try with_reducible rfl)
          simp only [Act.put, List.setIfInBounds_toArray, List.set_cons_zero, List.set_cons_succ]
          refine RG.takeF 7 (oi := ⟨some 80, _, _, _, _, _⟩) (v := ?_) rfl (by kernel_rfl) (by kernel_rfl) (by kernel_rfl) (by kernel_rfl) (fun _ _ _ h => h) (Or.inl ⟨by rfl, ?hyd7⟩) hS0 ?restd7
          case hyd7 => (intro W hW; (try dsimp only at hW); go_simp; try with_reducible rfl)
          simp only [Act.put, List.setIfInBounds_toArray, List.set_cons_zero, List.set_cons_succ]
          have hrow := (HIC.out.mem.rows).alloc (.cells #[.int .i64 k1, .int .i64 k2, .string k3, .int .i64 o1, .int .i64 o2, .string o3, .bool true] 190)
          have hnb : Blk (wc.alloc (.cells #[.int .i64 k1, .int .i64 k2, .string k3, .int .i64 o1, .int .i64 o2, .string o3, .bool true] 190)) wc.heap.size 190 (Ent.cells (some (⟨k1, k2, k3⟩, ⟨o1, o2, o3⟩))) := Blk.new wc (Ent.cells (some (⟨k1, k2, k3⟩, ⟨o1, o2, o3⟩))) 190
          have hS1 : Chg (fun b => (Value.slice ea es.length ec).ownBlock = some b) wc (wc.alloc (.cells #[.int .i64 k1, .int .i64 k2, .string k3, .int .i64 o1, .int .i64 o2, .string o3, .bool true] 190)) := hS0.alloc _
          refine RG.oneF 8 (by kernel_rfl) (by decide) ?_
          refine RG.wpOp_plain rfl rfl fun K hK => ?_
          go_simp
          refine hK _ _ ⟨hS1, ?_⟩
          clear hK K
          try simp only [Act.put, List.setIfInBounds_toArray, List.set_cons_zero, List.set_cons_succ]
          obtain ⟨v', wd, r, o, gr, hat'⟩ := run_append_ent _ 0 _ _ hnb _ _ hrow (by have h1 := HIC.out.tab.fill; have h2 := HIC.out.tab.top; omega) (Nat.zero_le _)
          refine RG.oneF 9 (by kernel_rfl) (by decide) ?_
          refine RG.wpOp_plain rfl rfl fun K hK => ?_
          refine RG.wp_append_run _ _ 183 183 rfl rfl rfl r ?_
          have hS2 := hS1.grown gr (fun q hq _ => hq)
          refine hK _ _ ⟨hS2, ?_⟩
          clear hK K
          try simp only [Act.put, List.setIfInBounds_toArray, List.set_cons_zero, List.set_cons_succ]
          obtain ⟨na, nc, rfl⟩ := ownsRow_form o
          refine RG.oneF 10 (by kernel_rfl) (by decide) ?_
          refine RG.wpOp_plain rfl rfl fun K hK => ?_
          go_simp
          refine hK _ _ ⟨hS2, ?_⟩
          clear hK K
          try simp only [Act.put, List.setIfInBounds_toArray, List.set_cons_zero, List.set_cons_succ]
          refine RG.oneF 11 (by kernel_rfl) (by decide) ?_
          refine RG.wpOp_plain rfl rfl fun K hK => ?_
          go_simp
          refine hK _ _ ⟨hS2, ?_⟩
          clear hK K
          try simp only [Act.put, List.setIfInBounds_toArray, List.set_cons_zero, List.set_cons_succ]
          have HC2 := Lib.hid hS2
          have HO2 := Lib.hid o
          have HAT2 : Hid (∀ g, (Value.slice na (es.length + 1) nc).ownBlock = some g → (Value.slice ea es.length ec).ownBlock = some g ∨ wc.heap.size ≤ g) := Lib.hid (fun g hg => by
            rcases hat' with h | h
            · exact .inl (h.symm.trans hg)
            · refine .inr ?_
              have h1 := Option.some.inj (hg.symm.trans h)
              rw [h1]; simp)
          clear r gr hat' o hrow hnb hS1
          have hdn : ¬ ((Value.slice ea es.length ec).ownBlock = some d) := fun hg => blk_ne_row HIC.out.mem.hd HIC.out.mem.rows hg (by decide) rfl
          have htn : ¬ ((Value.slice ea es.length ec).ownBlock = some tb) := fun hg => blk_ne_row HIC.out.mem.tab HIC.out.mem.rows hg (by decide) rfl
          have hdd := HIC.out.mem.hd.of (hS2.block _ HIC.out.mem.hd.lt hdn)
          have htd := HIC.out.mem.tab.of (hS2.block _ HIC.out.mem.tab.lt htn)
          have x0 := hdd.cell 0 _ rfl
          have f0 := hdd.frozen 0
          refine RG.lastF (by kernel_rfl) (by kernel_rfl) ?_
          refine RG.wpOp_plain rfl rfl fun K hK => ?_
          go_simp
          refine hK _ _ ?_
          clear hK K
          try simp only [Act.put, List.setIfInBounds_toArray, List.set_cons_zero, List.set_cons_succ]
          clear q0 q1 q2 q3 q4 q5 q6 x0 f0 hS0 hS2
          go_upto_region 18 with (fail)
          have hw9 : ({ (wd.setCell ⟨d, 0, none⟩ (.slice na (es.length + 1) nc)) with drawn := (wd.setCell ⟨d, 0, none⟩ (.slice na (es.length + 1) nc)).drawn + 1 } : World) = ({ wd with drawn := wd.drawn + 1 } : World).setCell ⟨d, 0, none⟩ (.slice na (es.length + 1) nc) := rfl
          refine RG.region_F (Below (wd.setCell ⟨d, 0, none⟩ (.slice na (es.length + 1) nc)).heap.size (wd.setCell ⟨d, 0, none⟩ (.slice na (es.length + 1) nc))) 11 (by kernel_rfl) ?_
          rw [hw9]
          have hSd : Below (wd.setCell ⟨d, 0, none⟩ (.slice na (es.length + 1) nc)).heap.size (wd.setCell ⟨d, 0, none⟩ (.slice na (es.length + 1) nc)) (({ wd with drawn := wd.drawn + 1 } : World).setCell ⟨d, 0, none⟩ (.slice na (es.length + 1) nc)) := by
            rw [← hw9]; exact ⟨rfl, rfl, rfl, Nat.le_refl _, fun _ _ => rfl⟩
          have hdr : Below wd.heap.size wd ({ wd with drawn := wd.drawn + 1 } : World) := ⟨rfl, rfl, rfl, Nat.le_refl _, fun _ _ => rfl⟩
          have HC3 := Lib.hid (HC2.out.trans (Chg.ofBelow (B := fun b => (Value.slice ea es.length ec).ownBlock = some b) hdr) (fun b hb h => h))
          have HO3 := Lib.hid (ownsRow_of (w' := ({ wd with drawn := wd.drawn + 1 } : World)) HO2.out (fun g hg => rfl))
          have hd9 := hdd.setSame 0 (.slice na (es.length + 1) nc)
          have hdt : d ≠ tb := hdd.ne htd (by decide)
          have ht9 := htd.setOther (a := ⟨d, 0, none⟩) (Ne.symm hdt) (.slice na (es.length + 1) nc)
          have r0 : ∀ W, Below (wd.setCell ⟨d, 0, none⟩ (.slice na (es.length + 1) nc)).heap.size (wd.setCell ⟨d, 0, none⟩ (.slice na (es.length + 1) nc)) W → W.cell? ⟨d, 0, none⟩ = some (.slice na (es.length + 1) nc) := fun W hW => (hd9.of (hW.block _ hd9.lt)).cell 0 _ rfl
          have r1 : ∀ W, Below (wd.setCell ⟨d, 0, none⟩ (.slice na (es.length + 1) nc)).heap.size (wd.setCell ⟨d, 0, none⟩ (.slice na (es.length + 1) nc)) W → W.cell? ⟨d, 1, none⟩ = some (.slice (some ⟨tb, 0, none⟩) T.length T.length) := fun W hW => (hd9.of (hW.block _ hd9.lt)).cell 1 _ rfl
          have hatl : at' < T.length := by
            obtain ⟨j, h1, _⟩ := HIC.out.tab.absent HAB2.out
            rw [HAT.out, h1]
            exact Nat.mod_lt _ (by have := HIC.out.tab.big; omega)
          have HATL := Lib.hid hatl
          have hd10 := hd9.of (hSd.block _ hd9.lt)
          have ht10 := ht9.of (hSd.block _ ht9.lt)
          have hbd : es.length + 1 ≤ 1048577 := by have h1 := HIC.out.tab.fill; have h2 := HIC.out.tab.top; omega
          clear hw9 hdr hd9 ht9 hdd htd
          generalize ({ wd with drawn := wd.drawn + 1 } : World) = we at *
          generalize wd.setCell ⟨d, 0, none⟩ (.slice na (es.length + 1) nc) = wx at *
          refine RG.takeF 0 (oi := ⟨some 85, _, _, _, _, _⟩) (v := ?_) rfl (by kernel_rfl) (by kernel_rfl) (by kernel_rfl) (by kernel_rfl) (fun _ _ _ h => h) (Or.inl ⟨by rfl, ?hydx0⟩) hSd ?restdx0
          case hydx0 => (intro W hW; (try dsimp only at hW); go_simp; try with_reducible rfl)
          simp only [Act.put, List.setIfInBounds_toArray, List.set_cons_zero, List.set_cons_succ]
          refine RG.takeF 1 (oi := ⟨some 86, _, _, _, _, _⟩) (v := ?_) rfl (by kernel_rfl) (by kernel_rfl) (by kernel_rfl) (by kernel_rfl) (fun _ _ _ h => h) (Or.inl ⟨by rfl, ?hydx1⟩) hSd ?restdx1
          case hydx1 => (intro W hW; (try dsimp only at hW); go_simp; try with_reducible rfl)
          simp only [Act.put, List.setIfInBounds_toArray, List.set_cons_zero, List.set_cons_succ]
          refine RG.takeF 2 (oi := ⟨some 87, _, _, _, _, _⟩) (v := ?_) rfl (by kernel_rfl) (by kernel_rfl) (by kernel_rfl) (by kernel_rfl) (fun _ _ _ h => h) (Or.inl ⟨by rfl, ?hydx2⟩) hSd ?restdx2
          case hydx2 => (intro W hW; (try dsimp only at hW); go_simp; try with_reducible rfl)
          simp only [Act.put, List.setIfInBounds_toArray, List.set_cons_zero, List.set_cons_succ]
          refine RG.takeF 3 (oi := ⟨some 88, _, _, _, _, _⟩) (v := ?_) rfl (by kernel_rfl) (by kernel_rfl) (by kernel_rfl) (by kernel_rfl) (fun _ _ _ h => h) (Or.inl ⟨by rfl, ?hydx3⟩) hSd ?restdx3
          case hydx3 => (intro W hW; (try dsimp only at hW); go_simp; try with_reducible rfl)
          simp only [Act.put, List.setIfInBounds_toArray, List.set_cons_zero, List.set_cons_succ]
          refine RG.takeF 4 (oi := ⟨some 89, _, _, _, _, _⟩) (v := ?_) rfl (by kernel_rfl) (by kernel_rfl) (by kernel_rfl) (by kernel_rfl) (fun _ _ _ h => h) (Or.inl ⟨by rfl, ?hydx4⟩) hSd ?restdx4
          case hydx4 => (intro W hW; (try dsimp only at hW); go_simp; try with_reducible rfl)
          simp only [Act.put, List.setIfInBounds_toArray, List.set_cons_zero, List.set_cons_succ]
          refine RG.takeF 5 (oi := ⟨some 90, _, _, _, _, _⟩) (v := ?_) rfl (by kernel_rfl) (by kernel_rfl) (by kernel_rfl) (by kernel_rfl) (fun _ _ _ h => h) (Or.inl ⟨by rfl, ?hydx5⟩) hSd ?restdx5
          case hydx5 => (intro W hW; (try dsimp only at hW); go_simp; try with_reducible rfl)
          simp only [Act.put, List.setIfInBounds_toArray, List.set_cons_zero, List.set_cons_succ]
          refine RG.takeF 6 (oi := ⟨some 91, _, _, _, _, _⟩) (v := ?_) rfl (by kernel_rfl) (by kernel_rfl) (by kernel_rfl) (by kernel_rfl) (fun _ _ _ h => h) (Or.inl ⟨by rfl, ?hydx6⟩) hSd ?restdx6
          case hydx6 => (intro W hW; (try dsimp only at hW); go_simp; try with_reducible rfl)
          simp only [Act.put, List.setIfInBounds_toArray, List.set_cons_zero, List.set_cons_succ]
          refine RG.takeF 7 (oi := ⟨some 92, _, _, _, _, _⟩) (v := ?_) rfl (by kernel_rfl) (by kernel_rfl) (by kernel_rfl) (by kernel_rfl) (fun _ _ _ h => h) (Or.inl ⟨by rfl, ?hydx7⟩) hSd ?restdx7
          case hydx7 => (intro W hW; (try dsimp only at hW); go_simp; try with_reducible rfl)
          simp only [Act.put, List.setIfInBounds_toArray, List.set_cons_zero, List.set_cons_succ]
          refine RG.takeF 8 (oi := ⟨some 93, _, _, _, _, _⟩) (v := ?_) rfl (by kernel_rfl) (by kernel_rfl) (by kernel_rfl) (by kernel_rfl) (fun _ _ _ h => h) (Or.inl ⟨by rfl, ?hydx8⟩) hSd ?restdx8
          case hydx8 => (intro W hW; (try dsimp only at hW); go_simp; try with_reducible rfl)
          simp only [Act.put, List.setIfInBounds_toArray, List.set_cons_zero, List.set_cons_succ]
          refine RG.takeF 9 (oi := ⟨some 94, _, _, _, _, _⟩) (v := ?_) rfl (by kernel_rfl) (by kernel_rfl) (by kernel_rfl) (by kernel_rfl) (fun _ _ _ h => h) (Or.inl ⟨by rfl, ?hydx9⟩) hSd ?restdx9
          case hydx9 => (intro W hW; (try dsimp only at hW); go_simp; try with_reducible rfl)
          simp only [Act.put, List.setIfInBounds_toArray, List.set_cons_zero, List.set_cons_succ]
          have hat0 : (0 : Int) ≤ (at' : Int) := by omega
          have hat1 : (at' : Int) < (T.length : Int) := by omega
          refine RG.oneF 10 (by kernel_rfl) (by decide) ?_
          refine RG.wpOp_plain rfl rfl fun K hK => ?_
          go_simp
          refine hK _ _ ⟨hSd, ?_⟩
          clear hK K
          try simp only [Act.put, List.setIfInBounds_toArray, List.set_cons_zero, List.set_cons_succ]
          have t0 := ht10.cell at' _ (by rw [List.getElem?_map, List.getElem?_eq_getElem hatl]; rfl)
          have tf := ht10.frozen at'
          refine RG.lastF (by kernel_rfl) (by kernel_rfl) ?_
          refine RG.wpOp_plain rfl rfl fun K hK => ?_
          go_simp
          refine hK _ _ ?_
          clear hK K
          try simp only [Act.put, List.setIfInBounds_toArray, List.set_cons_zero, List.set_cons_succ]
          have c3 := hd10.cell 3 _ rfl
          have f3 := hd10.frozen 3
          clear r0 r1 t0 tf
          go_wp2
          go_ret2
          have hfin := HIC.out.added (w1 := we) HAB2.out HCAN.out (v := ⟨o1, o2, o3⟩) ho0 HF2.out HO3.out HC3.out HAT2.out _ rfl _ rfl
          rw [← HAT.out, show (((es.length + 1 : Nat) : Int)) = (es.length : Int) + 1 by omega] at hfin
          refine ⟨rfl, fun b => X b ∨ (Value.slice na (es.length + 1) nc).ownBlock = some b, ⟨es ++ [some (⟨k1, k2, k3⟩, ⟨o1, o2, o3⟩)], _, tb, _, hfin, ?_, ?_⟩, ?_, ?_⟩
          · rw [absE_append, HLL.out]; rfl
          · rw [List.length_append, List.length_singleton]; have := HNE2.out; omega
          · intro b hb
            rcases hb with hb | hb
            · exact HX2.out b hb
            · rcases HAT2.out b hb with h | h
              · exact HX2.out b (HIC.out.ownE b h)
              · exact .inr (Nat.le_trans HCC.out.size h)
          · have hmem : ∀ b, b < w.heap.size → X b → X b := fun b h1 h2 => (HX2.out b h2).elim id (fun h => absurd h1 (by omega))
            have h1 := HCC.out.trans HC3.out (fun b h1 h2 => hmem b h1 (HIC.out.ownE b h2))
            exact ((h1.setCell (a := ⟨d, 0, none⟩) (fun h => hmem d h HIC.out.ownD) _).setCell (a := ⟨tb, at', none⟩) (fun h => hmem tb h HIC.out.ownT) _).setCell (a := ⟨d, 3, none⟩) (fun h => hmem d h HIC.out.ownD) _
        · have hfl' : (3 * (n : Int) < 4 * ((m : Int) + 1)) := by omega
          go_enter Try.func44, Try.ntmps44
          go_upto_region 7 with (first
            | (go_at_call 43; (with_reducible refine (HKY.out _).mono ?_); rintro e w1 ⟨rfl, hb⟩; have HB1 := Lib.hid (HB0.out.trans (hb.mono HB0.out.size)); have HV1 := Lib.hid (HV0.out.of (hb.block _ HV0.out.lt)); clear hb; have HB1' : Hid (Below w.heap.size w (w1.alloc (.cells #[.int .i64 k1, .int .i64 k2, .string k3] 57))) := Lib.hid (HB1.out.alloc HB1.out.size _); have HK1 := Lib.hid (Blk.new w1 [.int .i64 k1, .int .i64 k2, .string k3] 57); have HV1' := Lib.hid (HV1.out.alloc (.cells #[.int .i64 k1, .int .i64 k2, .string k3] 57)); have y0 := HV1'.out.cell 0 _ rfl; have y1 := HV1'.out.cell 1 _ rfl; have y2 := HV1'.out.cell 2 _ rfl)
            | (go_at_call 59; (with_reducible refine (HO.out _).mono ?_); rintro e w2 ⟨rfl, hb⟩; have HB2 := Lib.hid (HB1'.out.trans (hb.mono HB1'.out.size)); have HK2 := Lib.hid (HK1.out.of (hb.block _ HK1.out.lt)); have HV2 := Lib.hid (HV1'.out.of (hb.block _ HV1'.out.lt)); clear hb; have z0 := HV2.out.cell 0 _ rfl; have z1 := HV2.out.cell 1 _ rfl; have z2 := HV2.out.cell 2 _ rfl; have f0 := HV2.out.frozen 0; have f1 := HV2.out.frozen 1; have f2 := HV2.out.frozen 2))
          have hbv : w1.heap.size ≠ w.heap.size + 1 := by have := HV1.out.lt; omega
          have HVW := Lib.hid (((HV2.out.setSame 0 (.int .i64 o1)).setSame 1 (.int .i64 o2)).setSame 2 (.string o3))
          have HKW := Lib.hid (((HK2.out.setOther (a := ⟨w.heap.size + 1, 0, none⟩) hbv (.int .i64 o1)).setOther (a := ⟨w.heap.size + 1, 1, none⟩) hbv (.int .i64 o2)).setOther (a := ⟨w.heap.size + 1, 2, none⟩) hbv (.string o3))
          have HBW : Hid (Below w.heap.size w (((w2.setCell ⟨w.heap.size + 1, 0, none⟩ (.int .i64 o1)).setCell ⟨w.heap.size + 1, 1, none⟩ (.int .i64 o2)).setCell ⟨w.heap.size + 1, 2, none⟩ (.string o3))) := Lib.hid (((HB2.out.setCell (by simp) _).setCell (by simp) _).setCell (by simp) _)
          generalize ((w2.setCell ⟨w.heap.size + 1, 0, none⟩ (.int .i64 o1)).setCell ⟨w.heap.size + 1, 1, none⟩ (.int .i64 o2)).setCell ⟨w.heap.size + 1, 2, none⟩ (.string o3) = W at *
          have hbl : w1.heap.size < W.heap.size := HKW.out.lt
          have hvl : w.heap.size + 1 < W.heap.size := HVW.out.lt
          have hbw : w.heap.size ≤ w1.heap.size := HB1.out.size
          generalize w1.heap.size = bk at *
          generalize hbb : w.heap.size + 1 = bv at *
          have HBB := Lib.hid hbb
          have k0' := HKW.out.cell 0 _ rfl
          have k1' := HKW.out.cell 1 _ rfl
          have k2' := HKW.out.cell 2 _ rfl
          clear z0 z1 z2 f0 f1 f2 y0 y1 y2 HB2 HK2 HV2 HV1' HK1 HB1' HV1 HB1 hbb
          have HIW := Lib.hid (HI.out.below HBW.out)
          go_upto_region 14 with (first
            | (go_at_call 108; (with_reducible refine (HE.out _ HIW.out).mono ?_); rintro e w3 ⟨rfl, hb⟩; have HB3 := Lib.hid (HBW.out.trans (hb.mono HBW.out.size)); have HI3 := Lib.hid (HIW.out.below hb); have HK3 := Lib.hid (HKW.out.of (hb.block _ HKW.out.lt)); have HV3 := Lib.hid (HVW.out.of (hb.block _ HVW.out.lt)); have z0 := HV3.out.cell 0 _ rfl; have z1 := HV3.out.cell 1 _ rfl; have z2 := HV3.out.cell 2 _ rfl; clear hb)
            | (go_at_call 109; (with_reducible refine (HLO.out _).mono ?_); rintro e w4 ⟨rfl, hb⟩; have HB4 := Lib.hid (HB3.out.trans (hb.mono HB3.out.size)); have HI4 := Lib.hid (HI3.out.below hb); have HK4 := Lib.hid (HK3.out.of (hb.block _ HK3.out.lt)); have HV4 := Lib.hid (HV3.out.of (hb.block _ HV3.out.lt)); clear hb; have c0 := HI4.out.mem.hd.cell 0 _ rfl; have c1 := HI4.out.mem.hd.cell 1 _ rfl; rw [← EM.out] at c0; rw [← EN.out] at c1))
          go_quiet (fail)
          have hdr : Below w4.heap.size w4 (w4.drewN nq) := Below.drewN (Below.refl _ _) _
          have HIA0 := Lib.hid (HI4.out.below hdr)
          have HKA0 := Lib.hid (HK4.out.of (hdr.block _ HK4.out.lt))
          have HVA0 := Lib.hid (HV4.out.of (hdr.block _ HV4.out.lt))
          have HCA0 := Lib.hid (Chg.ofBelow (B := X) (HB4.out.trans (hdr.mono HB4.out.size)))
          have hbk : bk ≠ d := by have := HI.out.mem.hd.lt; omega
          have hbvd : bv ≠ d := by have := HI.out.mem.hd.lt; have := HBB.out; omega
          have HLAY := Lib.hid (fun (W : World) (h : DIn W X d es (.slice ea es.length ec) tb T) => dlay_calls h (by have := HNE.out; omega))
          clear c0 c1 hfl hE1 hT1 EM EN z0 z1 z2 HI4 HI3 HK4 HK3 HV4 HV3 HB4 HB3
          generalize w4.drewN nq = wz at *
          go_upto_region 16 with (go_at_call 110; (with_reducible refine (HLAY.out _ HIA0.out).mono ?_); rintro e wa ⟨rfl, X2, ev2, tb2, T2, hI2, hx2, hc2, hf2⟩; have HIAX := Lib.hid hI2; have HXX := Lib.hid hx2; have HCX := Lib.hid hc2; have HFX := Lib.hid hf2; clear hI2 hx2 hc2 hf2)
          obtain ⟨ea2, ec2, hev2⟩ := ownsRow_form HIAX.out.mem.rows
          subst hev2
          obtain ⟨es2, hes2⟩ : ∃ es2, es2 = someE (absE es) := ⟨_, rfl⟩
          have HIA : Hid (DIn wa X2 d es2 (.slice ea2 es2.length ec2) tb2 T2) := Lib.hid (by rw [hes2]; exact HIAX.out)
          have HKA := Lib.hid (HKA0.out.of (HCX.out.block _ HKA0.out.lt hbk))
          have HVA := Lib.hid (HVA0.out.of (HCX.out.block _ HVA0.out.lt hbvd))
          have HCA := Lib.hid (HCA0.out.trans HCX.out (fun b h1 h2 => by subst h2; exact HI.out.ownD))
          have HX2 : Hid (∀ b, X2 b → X b ∨ w.heap.size ≤ b) := Lib.hid (fun b hb => (HXX.out b hb).elim (fun h => .inl (by subst h; exact HI.out.ownD)) (fun h => .inr (Nat.le_trans HCA0.out.size h)))
          have habs2 : absE es2 = absE es := by rw [hes2, absE_someE]
          have hle2 : es2.length ≤ es.length := by rw [hes2, someE, List.length_map]; exact absE_len es
          have HF2 : Hid (4 * (es2.length + 1) ≤ 3 * T2.length) := Lib.hid (by rw [hes2, someE, List.length_map]; exact HFX.out)
          have HLL : Hid (absE es2 = L) := Lib.hid (habs2.trans HL.out)
          have HNE2 : Hid (es2.length ≤ N) := Lib.hid (Nat.le_trans hle2 HNE.out)
          have HAB2 : Hid (∀ i w', es2.getD i none ≠ some ((⟨k1, k2, k3⟩ : Val), w')) := Lib.hid (fun i w' hi => by
            have h1 := mem_absE.2 ⟨i, hi⟩
            rw [habs2] at h1
            obtain ⟨i', hi'⟩ := mem_absE.1 h1
            exact HAB.out i' w' hi')
          rw [← habs2] at hlive0
          have hm2 : es2.length ≤ 131072 := by have := HNE2.out; omega
          clear HIAX HXX HCX HFX HKA0 HVA0 HIA0 HLAY habs2 hle2 hdr hfl' hes2
          have hd0 := HIA.out.mem.hd.lt
          have HFI := Lib.hid (fun (W : World) (h : DIn W X2 d es2 (.slice ea2 es2.length ec2) tb2 T2) => h.find ⟨k1, k2, k3⟩ HCAN.out.2.2)
          have e0 := HKA.out.cell 0 _ rfl
          have e1 := HKA.out.cell 1 _ rfl
          have e2 := HKA.out.cell 2 _ rfl
          obtain ⟨at', hat⟩ : ∃ at', at' = (findM T2 es2 ⟨k1, k2, k3⟩).1 := ⟨_, rfl⟩
          have HAT := Lib.hid hat
          rw [← hat] at HFI
          clear hat
          generalize (findM T2 es2 ⟨k1, k2, k3⟩).2 = pl at *
          go_upto_region 17 with (go_at_call 111; (with_reducible refine (HFI.out _ HIA.out).mono ?_); rintro e wb ⟨rfl, hb⟩; have HIB := Lib.hid (HIA.out.below hb); have HKB := Lib.hid (HKA.out.of (hb.block _ HKA.out.lt)); have HVB := Lib.hid (HVA.out.of (hb.block _ HVA.out.lt)); have HCB := Lib.hid (HCA.out.trans (Chg.ofBelow hb) (fun b hb h => h)); clear hb)
          have hB0 : Below wb.heap.size wb ({ wb with drawn := wb.drawn + 1 } : World) := ⟨rfl, rfl, rfl, Nat.le_refl _, fun _ _ => rfl⟩
          have HIC := Lib.hid (HIB.out.below hB0)
          have HKC := Lib.hid (HKB.out.of (hB0.block _ HKB.out.lt))
          have HVC := Lib.hid (HVB.out.of (hB0.block _ HVB.out.lt))
          have HCC := Lib.hid (HCB.out.trans (Chg.ofBelow (B := X) hB0) (fun b hb h => h))
          refine RG.region_F (Chg (fun b => (Value.slice ea2 es2.length ec2).ownBlock = some b) ({ wb with drawn := wb.drawn + 1 } : World)) 12 (by kernel_rfl) ?_
          clear hB0
          generalize ({ wb with drawn := wb.drawn + 1 } : World) = wc at *
          have q0 : ∀ W, Chg (fun b => (Value.slice ea2 es2.length ec2).ownBlock = some b) wc W → W.cell? ⟨d, 0, none⟩ = some (.slice ea2 es2.length ec2) := fun W hW => (HIC.out.mem.hd.of (hW.block _ HIC.out.mem.hd.lt (fun hg => blk_ne_row HIC.out.mem.hd HIC.out.mem.rows hg (by decide) rfl))).cell 0 _ rfl
          have qk : ∀ W, Chg (fun b => (Value.slice ea2 es2.length ec2).ownBlock = some b) wc W → Blk W bk 57 [.int .i64 k1, .int .i64 k2, .string k3] := fun W hW => HKC.out.of (hW.block _ HKC.out.lt (fun hg => blk_ne_row HKC.out HIC.out.mem.rows hg (by decide) rfl))
          have qv : ∀ W, Chg (fun b => (Value.slice ea2 es2.length ec2).ownBlock = some b) wc W → Blk W bv 57 [.int .i64 o1, .int .i64 o2, .string o3] := fun W hW => HVC.out.of (hW.block _ HVC.out.lt (fun hg => blk_ne_row HVC.out HIC.out.mem.rows hg (by decide) rfl))
          have q1 : ∀ W, Chg (fun b => (Value.slice ea2 es2.length ec2).ownBlock = some b) wc W → W.cell? ⟨bk, 0, none⟩ = some (.int .i64 k1) := fun W hW => (qk W hW).cell 0 _ rfl
          have q2 : ∀ W, Chg (fun b => (Value.slice ea2 es2.length ec2).ownBlock = some b) wc W → W.cell? ⟨bk, 1, none⟩ = some (.int .i64 k2) := fun W hW => (qk W hW).cell 1 _ rfl
          have q3 : ∀ W, Chg (fun b => (Value.slice ea2 es2.length ec2).ownBlock = some b) wc W → W.cell? ⟨bk, 2, none⟩ = some (.string k3) := fun W hW => (qk W hW).cell 2 _ rfl
          have q4 : ∀ W, Chg (fun b => (Value.slice ea2 es2.length ec2).ownBlock = some b) wc W → W.cell? ⟨bv, 0, none⟩ = some (.int .i64 o1) := fun W hW => (qv W hW).cell 0 _ rfl
          have q5 : ∀ W, Chg (fun b => (Value.slice ea2 es2.length ec2).ownBlock = some b) wc W → W.cell? ⟨bv, 1, none⟩ = some (.int .i64 o2) := fun W hW => (qv W hW).cell 1 _ rfl
          have q6 : ∀ W, Chg (fun b => (Value.slice ea2 es2.length ec2).ownBlock = some b) wc W → W.cell? ⟨bv, 2, none⟩ = some (.string o3) := fun W hW => (qv W hW).cell 2 _ rfl
          have hS0 : Chg (fun b => (Value.slice ea2 es2.length ec2).ownBlock = some b) wc wc := Chg.refl _ _
          clear qk qv
          refine RG.takeF 0 (oi := ⟨some 73, _, _, _, _, _⟩) (v := ?_) rfl (by kernel_rfl) (by kernel_rfl) (by kernel_rfl) (by kernel_rfl) (fun _ _ _ h => h) (Or.inl ⟨by rfl, ?hye0⟩) hS0 ?reste0
          case hye0 => (intro W hW; (try dsimp only at hW); go_simp; try with_reducible rfl)
          simp only [Act.put, List.setIfInBounds_toArray, List.set_cons_zero, List.set_cons_succ]
          refine RG.takeF 1 (oi := ⟨some 74, _, _, _, _, _⟩) (v := ?_) rfl (by kernel_rfl) (by kernel_rfl) (by kernel_rfl) (by kernel_rfl) (fun _ _ _ h => h) (Or.inl ⟨by rfl, ?hye1⟩) hS0 ?reste1
          case hye1 => (intro W hW; (try dsimp only at hW); go_simp; try with_reducible rfl)
          simp only [Act.put, List.setIfInBounds_toArray, List.set_cons_zero, List.set_cons_succ]
          refine RG.takeF 2 (oi := ⟨some 75, _, _, _, _, _⟩) (v := ?_) rfl (by kernel_rfl) (by kernel_rfl) (by kernel_rfl) (by kernel_rfl) (fun _ _ _ h => h) (Or.inl ⟨by rfl, ?hye2⟩) hS0 ?reste2
          case hye2 => (intro W hW; (try dsimp only at hW); go_simp; try with_reducible rfl)
          simp only [Act.put, List.setIfInBounds_toArray, List.set_cons_zero, List.set_cons_succ]
          refine RG.takeF 3 (oi := ⟨some 76, _, _, _, _, _⟩) (v := ?_) rfl (by kernel_rfl) (by kernel_rfl) (by kernel_rfl) (by kernel_rfl) (fun _ _ _ h => h) (Or.inl ⟨by rfl, ?hye3⟩) hS0 ?reste3
          case hye3 => (intro W hW; (try dsimp only at hW); go_simp; try with_reducible rfl)
          simp only [Act.put, List.setIfInBounds_toArray, List.set_cons_zero, List.set_cons_succ]
          refine RG.takeF 4 (oi := ⟨some 77, _, _, _, _, _⟩) (v := ?_) rfl (by kernel_rfl) (by kernel_rfl) (by kernel_rfl) (by kernel_rfl) (fun _ _ _ h => h) (Or.inl ⟨by rfl, ?hye4⟩) hS0 ?reste4
          case hye4 => (intro W hW; (try dsimp only at hW); go_simp; try with_reducible rfl)
          simp only [Act.put, List.setIfInBounds_toArray, List.set_cons_zero, List.set_cons_succ]
          refine RG.takeF 5 (oi := ⟨some 78, _, _, _, _, _⟩) (v := ?_) rfl (by kernel_rfl) (by kernel_rfl) (by kernel_rfl) (by kernel_rfl) (fun _ _ _ h => h) (Or.inl ⟨by rfl, ?hye5⟩) hS0 ?reste5
          case hye5 => (intro W hW; (try dsimp only at hW); go_simp; try with_reducible rfl)
          simp only [Act.put, List.setIfInBounds_toArray, List.set_cons_zero, List.set_cons_succ]
          refine RG.takeF 6 (oi := ⟨some 79, _, _, _, _, _⟩) (v := ?_) rfl (by kernel_rfl) (by kernel_rfl) (by kernel_rfl) (by kernel_rfl) (fun _ _ _ h => h) (Or.inl ⟨by rfl, ?hye6⟩) hS0 ?reste6
          case hye6 => (intro W hW; (try dsimp only at hW); go_simp; try with_reducible rfl)
          simp only [Act.put, List.setIfInBounds_toArray, List.set_cons_zero, List.set_cons_succ]
          refine RG.takeF 7 (oi := ⟨some 80, _, _, _, _, _⟩) (v := ?_) rfl (by kernel_rfl) (by kernel_rfl) (by kernel_rfl) (by kernel_rfl) (fun _ _ _ h => h) (Or.inl ⟨by rfl, ?hye7⟩) hS0 ?reste7
          case hye7 => (intro W hW; (try dsimp only at hW); go_simp; try with_reducible rfl)
          simp only [Act.put, List.setIfInBounds_toArray, List.set_cons_zero, List.set_cons_succ]
          have hrow := (HIC.out.mem.rows).alloc (.cells #[.int .i64 k1, .int .i64 k2, .string k3, .int .i64 o1, .int .i64 o2, .string o3, .bool true] 190)
          have hnb : Blk (wc.alloc (.cells #[.int .i64 k1, .int .i64 k2, .string k3, .int .i64 o1, .int .i64 o2, .string o3, .bool true] 190)) wc.heap.size 190 (Ent.cells (some (⟨k1, k2, k3⟩, ⟨o1, o2, o3⟩))) := Blk.new wc (Ent.cells (some (⟨k1, k2, k3⟩, ⟨o1, o2, o3⟩))) 190
          have hS1 : Chg (fun b => (Value.slice ea2 es2.length ec2).ownBlock = some b) wc (wc.alloc (.cells #[.int .i64 k1, .int .i64 k2, .string k3, .int .i64 o1, .int .i64 o2, .string o3, .bool true] 190)) := hS0.alloc _
          refine RG.oneF 8 (by kernel_rfl) (by decide) ?_
          refine RG.wpOp_plain rfl rfl fun K hK => ?_
          go_simp
          refine hK _ _ ⟨hS1, ?_⟩
          clear hK K
          try simp only [Act.put, List.setIfInBounds_toArray, List.set_cons_zero, List.set_cons_succ]
          obtain ⟨v', wd, r, o, gr, hat'⟩ := run_append_ent _ 0 _ _ hnb _ _ hrow (by have h1 := HIC.out.tab.fill; have h2 := HIC.out.tab.top; omega) (Nat.zero_le _)
          refine RG.oneF 9 (by kernel_rfl) (by decide) ?_
          refine RG.wpOp_plain rfl rfl fun K hK => ?_
          refine RG.wp_append_run _ _ 183 183 rfl rfl rfl r ?_
          have hS2 := hS1.grown gr (fun q hq _ => hq)
          refine hK _ _ ⟨hS2, ?_⟩
          clear hK K
          try simp only [Act.put, List.setIfInBounds_toArray, List.set_cons_zero, List.set_cons_succ]
          obtain ⟨na, nc, rfl⟩ := ownsRow_form o
          refine RG.oneF 10 (by kernel_rfl) (by decide) ?_
          refine RG.wpOp_plain rfl rfl fun K hK => ?_
          go_simp
          refine hK _ _ ⟨hS2, ?_⟩
          clear hK K
          try simp only [Act.put, List.setIfInBounds_toArray, List.set_cons_zero, List.set_cons_succ]
          refine RG.oneF 11 (by kernel_rfl) (by decide) ?_
          refine RG.wpOp_plain rfl rfl fun K hK => ?_
          go_simp
          refine hK _ _ ⟨hS2, ?_⟩
          clear hK K
          try simp only [Act.put, List.setIfInBounds_toArray, List.set_cons_zero, List.set_cons_succ]
          have HC2 := Lib.hid hS2
          have HO2 := Lib.hid o
          have HAT2 : Hid (∀ g, (Value.slice na (es2.length + 1) nc).ownBlock = some g → (Value.slice ea2 es2.length ec2).ownBlock = some g ∨ wc.heap.size ≤ g) := Lib.hid (fun g hg => by
            rcases hat' with h | h
            · exact .inl (h.symm.trans hg)
            · refine .inr ?_
              have h1 := Option.some.inj (hg.symm.trans h)
              rw [h1]; simp)
          clear r gr hat' o hrow hnb hS1
          have hdn : ¬ ((Value.slice ea2 es2.length ec2).ownBlock = some d) := fun hg => blk_ne_row HIC.out.mem.hd HIC.out.mem.rows hg (by decide) rfl
          have htn : ¬ ((Value.slice ea2 es2.length ec2).ownBlock = some tb2) := fun hg => blk_ne_row HIC.out.mem.tab HIC.out.mem.rows hg (by decide) rfl
          have hdd := HIC.out.mem.hd.of (hS2.block _ HIC.out.mem.hd.lt hdn)
          have htd := HIC.out.mem.tab.of (hS2.block _ HIC.out.mem.tab.lt htn)
          have x0 := hdd.cell 0 _ rfl
          have f0 := hdd.frozen 0
          refine RG.lastF (by kernel_rfl) (by kernel_rfl) ?_
          refine RG.wpOp_plain rfl rfl fun K hK => ?_
          go_simp
          refine hK _ _ ?_
          clear hK K
          try simp only [Act.put, List.setIfInBounds_toArray, List.set_cons_zero, List.set_cons_succ]
          clear q0 q1 q2 q3 q4 q5 q6 x0 f0 hS0 hS2
          go_upto_region 18 with (fail)
          have hw9 : ({ (wd.setCell ⟨d, 0, none⟩ (.slice na (es2.length + 1) nc)) with drawn := (wd.setCell ⟨d, 0, none⟩ (.slice na (es2.length + 1) nc)).drawn + 1 } : World) = ({ wd with drawn := wd.drawn + 1 } : World).setCell ⟨d, 0, none⟩ (.slice na (es2.length + 1) nc) := rfl
          refine RG.region_F (Below (wd.setCell ⟨d, 0, none⟩ (.slice na (es2.length + 1) nc)).heap.size (wd.setCell ⟨d, 0, none⟩ (.slice na (es2.length + 1) nc))) 11 (by kernel_rfl) ?_
          rw [hw9]
          have hSd : Below (wd.setCell ⟨d, 0, none⟩ (.slice na (es2.length + 1) nc)).heap.size (wd.setCell ⟨d, 0, none⟩ (.slice na (es2.length + 1) nc)) (({ wd with drawn := wd.drawn + 1 } : World).setCell ⟨d, 0, none⟩ (.slice na (es2.length + 1) nc)) := by
            rw [← hw9]; exact ⟨rfl, rfl, rfl, Nat.le_refl _, fun _ _ => rfl⟩
          have hdr : Below wd.heap.size wd ({ wd with drawn := wd.drawn + 1 } : World) := ⟨rfl, rfl, rfl, Nat.le_refl _, fun _ _ => rfl⟩
          have HC3 := Lib.hid (HC2.out.trans (Chg.ofBelow (B := fun b => (Value.slice ea2 es2.length ec2).ownBlock = some b) hdr) (fun b hb h => h))
          have HO3 := Lib.hid (ownsRow_of (w' := ({ wd with drawn := wd.drawn + 1 } : World)) HO2.out (fun g hg => rfl))
          have hd9 := hdd.setSame 0 (.slice na (es2.length + 1) nc)
          have hdt : d ≠ tb2 := hdd.ne htd (by decide)
          have ht9 := htd.setOther (a := ⟨d, 0, none⟩) (Ne.symm hdt) (.slice na (es2.length + 1) nc)
          have r0 : ∀ W, Below (wd.setCell ⟨d, 0, none⟩ (.slice na (es2.length + 1) nc)).heap.size (wd.setCell ⟨d, 0, none⟩ (.slice na (es2.length + 1) nc)) W → W.cell? ⟨d, 0, none⟩ = some (.slice na (es2.length + 1) nc) := fun W hW => (hd9.of (hW.block _ hd9.lt)).cell 0 _ rfl
          have r1 : ∀ W, Below (wd.setCell ⟨d, 0, none⟩ (.slice na (es2.length + 1) nc)).heap.size (wd.setCell ⟨d, 0, none⟩ (.slice na (es2.length + 1) nc)) W → W.cell? ⟨d, 1, none⟩ = some (.slice (some ⟨tb2, 0, none⟩) T2.length T2.length) := fun W hW => (hd9.of (hW.block _ hd9.lt)).cell 1 _ rfl
          have hatl : at' < T2.length := by
            obtain ⟨j, h1, _⟩ := HIC.out.tab.absent HAB2.out
            rw [HAT.out, h1]
            exact Nat.mod_lt _ (by have := HIC.out.tab.big; omega)
          have HATL := Lib.hid hatl
          have hd10 := hd9.of (hSd.block _ hd9.lt)
          have ht10 := ht9.of (hSd.block _ ht9.lt)
          have hbd : es2.length + 1 ≤ 1048577 := by have h1 := HIC.out.tab.fill; have h2 := HIC.out.tab.top; omega
          clear hw9 hdr hd9 ht9 hdd htd
          generalize ({ wd with drawn := wd.drawn + 1 } : World) = we at *
          generalize wd.setCell ⟨d, 0, none⟩ (.slice na (es2.length + 1) nc) = wx at *
          refine RG.takeF 0 (oi := ⟨some 85, _, _, _, _, _⟩) (v := ?_) rfl (by kernel_rfl) (by kernel_rfl) (by kernel_rfl) (by kernel_rfl) (fun _ _ _ h => h) (Or.inl ⟨by rfl, ?hyex0⟩) hSd ?restex0
          case hyex0 => (intro W hW; (try dsimp only at hW); go_simp; try with_reducible rfl)
          simp only [Act.put, List.setIfInBounds_toArray, List.set_cons_zero, List.set_cons_succ]
          refine RG.takeF 1 (oi := ⟨some 86, _, _, _, _, _⟩) (v := ?_) rfl (by kernel_rfl) (by kernel_rfl) (by kernel_rfl) (by kernel_rfl) (fun _ _ _ h => h) (Or.inl ⟨by rfl, ?hyex1⟩) hSd ?restex1
          case hyex1 => (intro W hW; (try dsimp only at hW); go_simp; try with_reducible rfl)
          simp only [Act.put, List.setIfInBounds_toArray, List.set_cons_zero, List.set_cons_succ]
          refine RG.takeF 2 (oi := ⟨some 87, _, _, _, _, _⟩) (v := ?_) rfl (by kernel_rfl) (by kernel_rfl) (by kernel_rfl) (by kernel_rfl) (fun _ _ _ h => h) (Or.inl ⟨by rfl, ?hyex2⟩) hSd ?restex2
          case hyex2 => (intro W hW; (try dsimp only at hW); go_simp; try with_reducible rfl)
          simp only [Act.put, List.setIfInBounds_toArray, List.set_cons_zero, List.set_cons_succ]
          refine RG.takeF 3 (oi := ⟨some 88, _, _, _, _, _⟩) (v := ?_) rfl (by kernel_rfl) (by kernel_rfl) (by kernel_rfl) (by kernel_rfl) (fun _ _ _ h => h) (Or.inl ⟨by rfl, ?hyex3⟩) hSd ?restex3
          case hyex3 => (intro W hW; (try dsimp only at hW); go_simp; try with_reducible rfl)
          simp only [Act.put, List.setIfInBounds_toArray, List.set_cons_zero, List.set_cons_succ]
          refine RG.takeF 4 (oi := ⟨some 89, _, _, _, _, _⟩) (v := ?_) rfl (by kernel_rfl) (by kernel_rfl) (by kernel_rfl) (by kernel_rfl) (fun _ _ _ h => h) (Or.inl ⟨by rfl, ?hyex4⟩) hSd ?restex4
          case hyex4 => (intro W hW; (try dsimp only at hW); go_simp; try with_reducible rfl)
          simp only [Act.put, List.setIfInBounds_toArray, List.set_cons_zero, List.set_cons_succ]
          refine RG.takeF 5 (oi := ⟨some 90, _, _, _, _, _⟩) (v := ?_) rfl (by kernel_rfl) (by kernel_rfl) (by kernel_rfl) (by kernel_rfl) (fun _ _ _ h => h) (Or.inl ⟨by rfl, ?hyex5⟩) hSd ?restex5
          case hyex5 => (intro W hW; (try dsimp only at hW); go_simp; try with_reducible rfl)
          simp only [Act.put, List.setIfInBounds_toArray, List.set_cons_zero, List.set_cons_succ]
          refine RG.takeF 6 (oi := ⟨some 91, _, _, _, _, _⟩) (v := ?_) rfl (by kernel_rfl) (by kernel_rfl) (by kernel_rfl) (by kernel_rfl) (fun _ _ _ h => h) (Or.inl ⟨by rfl, ?hyex6⟩) hSd ?restex6
          case hyex6 => (intro W hW; (try dsimp only at hW); go_simp; try with_reducible rfl)
          simp only [Act.put, List.setIfInBounds_toArray, List.set_cons_zero, List.set_cons_succ]
          refine RG.takeF 7 (oi := ⟨some 92, _, _, _, _, _⟩) (v := ?_) rfl (by kernel_rfl) (by kernel_rfl) (by kernel_rfl) (by kernel_rfl) (fun _ _ _ h => h) (Or.inl ⟨by rfl, ?hyex7⟩) hSd ?restex7
          case hyex7 => (intro W hW; (try dsimp only at hW); go_simp; try with_reducible rfl)
          simp only [Act.put, List.setIfInBounds_toArray, List.set_cons_zero, List.set_cons_succ]
          refine RG.takeF 8 (oi := ⟨some 93, _, _, _, _, _⟩) (v := ?_) rfl (by kernel_rfl) (by kernel_rfl) (by kernel_rfl) (by kernel_rfl) (fun _ _ _ h => h) (Or.inl ⟨by rfl, ?hyex8⟩) hSd ?restex8
          case hyex8 => (intro W hW; (try dsimp only at hW); go_simp; try with_reducible rfl)
          simp only [Act.put, List.setIfInBounds_toArray, List.set_cons_zero, List.set_cons_succ]
          refine RG.takeF 9 (oi := ⟨some 94, _, _, _, _, _⟩) (v := ?_) rfl (by kernel_rfl) (by kernel_rfl) (by kernel_rfl) (by kernel_rfl) (fun _ _ _ h => h) (Or.inl ⟨by rfl, ?hyex9⟩) hSd ?restex9
          case hyex9 => (intro W hW; (try dsimp only at hW); go_simp; try with_reducible rfl)
          simp only [Act.put, List.setIfInBounds_toArray, List.set_cons_zero, List.set_cons_succ]
          have hat0 : (0 : Int) ≤ (at' : Int) := by omega
          have hat1 : (at' : Int) < (T2.length : Int) := by omega
          refine RG.oneF 10 (by kernel_rfl) (by decide) ?_
          refine RG.wpOp_plain rfl rfl fun K hK => ?_
          go_simp
          refine hK _ _ ⟨hSd, ?_⟩
          clear hK K
          try simp only [Act.put, List.setIfInBounds_toArray, List.set_cons_zero, List.set_cons_succ]
          have t0 := ht10.cell at' _ (by rw [List.getElem?_map, List.getElem?_eq_getElem hatl]; rfl)
          have tf := ht10.frozen at'
          refine RG.lastF (by kernel_rfl) (by kernel_rfl) ?_
          refine RG.wpOp_plain rfl rfl fun K hK => ?_
          go_simp
          refine hK _ _ ?_
          clear hK K
          try simp only [Act.put, List.setIfInBounds_toArray, List.set_cons_zero, List.set_cons_succ]
          have c3 := hd10.cell 3 _ rfl
          have f3 := hd10.frozen 3
          clear r0 r1 t0 tf
          go_wp2
          go_ret2
          have hfin := HIC.out.added (w1 := we) HAB2.out HCAN.out (v := ⟨o1, o2, o3⟩) ho0 HF2.out HO3.out HC3.out HAT2.out _ rfl _ rfl
          rw [← HAT.out, show (((es2.length + 1 : Nat) : Int)) = (es2.length : Int) + 1 by omega] at hfin
          refine ⟨rfl, fun b => X2 b ∨ (Value.slice na (es2.length + 1) nc).ownBlock = some b, ⟨es2 ++ [some (⟨k1, k2, k3⟩, ⟨o1, o2, o3⟩)], _, tb2, _, hfin, ?_, ?_⟩, ?_, ?_⟩
          · rw [absE_append, HLL.out]; rfl
          · rw [List.length_append, List.length_singleton]; have := HNE2.out; omega
          · intro b hb
            rcases hb with hb | hb
            · exact HX2.out b hb
            · rcases HAT2.out b hb with h | h
              · exact HX2.out b (HIC.out.ownE b h)
              · exact .inr (Nat.le_trans HCC.out.size h)
          · have hmem : ∀ b, b < w.heap.size → X2 b → X b := fun b h1 h2 => (HX2.out b h2).elim id (fun h => absurd h1 (by omega))
            have h1 := HCC.out.trans HC3.out (fun b h1 h2 => hmem b h1 (HIC.out.ownE b h2))
            exact ((h1.setCell (a := ⟨d, 0, none⟩) (fun h => hmem d h HIC.out.ownD) _).setCell (a := ⟨tb2, at', none⟩) (fun h => hmem tb2 h HIC.out.ownT) _).setCell (a := ⟨d, 3, none⟩) (fun h => hmem d h HIC.out.ownD) _
