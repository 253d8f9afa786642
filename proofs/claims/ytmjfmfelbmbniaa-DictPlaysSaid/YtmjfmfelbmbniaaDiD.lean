/- Layer 13: a key is dropped. -/
import Derived.Test.YtmjfmfelbmbniaaDiP
namespace Go.Proofs.Ytmjfmfelbmbniaa
open Go.RowKit Go.Maps HK ShM
set_option linter.unusedVariables false
set_option linter.unusedSimpArgs false
section
variable {w w' : World} {X : Nat → Prop} {d N : Nat} {L : Pairs}
theorem getD_of_get {es : List Ent} {i : Nat} {x : Ent} (h : es[i]? = some x) : es.getD i none = x := by rw [List.getD_eq_getElem?_getD, h]; rfl
theorem DIn.dropped {es : List Ent} {g cap tb i : Nat} {T : List Nat} {k v : Val} (h : DIn w X d es (.slice (some ⟨g, 0, none⟩) es.length cap) tb T) (hi : es[i]? = some (some (k, v))) (dr' lv' : Int) (e1 : dr' = (es.length : Int) - (absE es).length + 1) (e2 : lv' = (liveL (absE es) : Int) - v.lives) :
    DIn (((((((((w.setCell ⟨d, 3, none⟩ (.int .i64 lv')).setCell ⟨d, 2, none⟩ (.int .i64 dr')).setCell ⟨g, i * 7, none⟩ (.int .i64 0)).setCell ⟨g, i * 7 + 1, none⟩ (.int .i64 0)).setCell ⟨g, i * 7 + 2, none⟩ (.string ⟨#[]⟩)).setCell ⟨g, i * 7 + 3, none⟩ (.int .i64 0)).setCell ⟨g, i * 7 + 4, none⟩ (.int .i64 0)).setCell ⟨g, i * 7 + 5, none⟩ (.string ⟨#[]⟩)).setCell ⟨g, i * 7 + 6, none⟩ (.bool false)) X d (es.set i none) (.slice (some ⟨g, 0, none⟩) es.length cap) tb T := by
  have hD := getD_of_get hi
  have hlt := (List.getElem?_eq_some_iff.1 hi).1
  have hdg : d ≠ g := blk_ne_row h.mem.hd h.mem.rows rfl (by decide)
  have hdt : d ≠ tb := h.mem.hd.ne h.mem.tab (by decide)
  have hgt : tb ≠ g := blk_ne_row h.mem.tab h.mem.rows rfl (by decide)
  have hlen := flatE_len es
  have q1 : dr' = ((es.set i none).length : Int) - (absE (es.set i none)).length := by rw [e1, List.length_set]; have := len_drop hD; omega
  have q2 : lv' = (liveL (absE (es.set i none)) : Int) := by rw [e2, live_drop hD]
  refine ⟨⟨?_, ?_, ?_⟩, h.tab.over (fun k v e => by cases e), uniq_set h.uniq hlt (fun k v e => by cases e), ?_, h.ownD, h.ownT, h.ownE, fun b hb => by simpa using h.lt b hb⟩
  · rw [← q1, ← q2]
    exact ((((((((h.mem.hd.setSame 3 _).setSame 2 _).setOther hdg _).setOther hdg _).setOther hdg _).setOther hdg _).setOther hdg _).setOther hdg _).setOther hdg _
  · rw [← flatE_drop hlt, List.length_set]
    have r := ownsRow_of (w' := (w.setCell ⟨d, 3, none⟩ (.int .i64 lv')).setCell ⟨d, 2, none⟩ (.int .i64 dr')) h.mem.rows (fun g' hg => by cases hg; exact (Below.heap_setCell _ _ _ _ (Ne.symm hdg)).trans (Below.heap_setCell _ _ _ _ (Ne.symm hdg)))
    exact row_set (row_set (row_set (row_set (row_set (row_set (row_set r (by omega) _) (by simp; omega) _) (by simp; omega) _) (by simp; omega) _) (by simp; omega) _) (by simp; omega) _) (by simp; omega) _
  · exact ((((((((h.mem.tab.setOther (Ne.symm hdt) _).setOther (Ne.symm hdt) _).setOther hgt _).setOther hgt _).setOther hgt _).setOther hgt _).setOther hgt _).setOther hgt _).setOther hgt _
  · intro j k' v' hj
    rw [getD_set_ent hlt] at hj
    by_cases e : j = i
    · rw [if_pos e] at hj; cases hj
    · rw [if_neg e] at hj; exact h.canon j k' v' hj
set_option maxHeartbeats 4000000 in
set_option maxRecDepth 20000 in
theorem ddrop_calls (h : DAt w X d L N) (x : Val) (hx : x.s.size ≤ maxLen) : Calls Try.prog 45 #[.pointer (some ⟨d, 0, none⟩), x.v] w fun e w' => e = .returned (.bool (hasK L x)) ∧ DAt w' X d (if hasK L x then dropA L (keyV x) else L) N ∧ Chg X w w' := by
  have HD := Lib.hid h
  obtain ⟨es, ev, tb, T, h, hL, hN, ho⟩ := ent_get h x
  have HE := Lib.hid (fun (W : World) (h : DIn W X d es ev tb T) => entry_calls h x hx)
  have HI := Lib.hid h
  have HB0 : Hid (Below w.heap.size w (w.alloc (.cells #[.int .i64 x.k, .int .i64 x.n, .string x.s] 57))) := Lib.hid (by (repeat (first | exact Below.refl _ _ | (refine Below.alloc ?_ (by simp <;> omega) _))))
  rcases ho with ⟨h1, h2, i, v, h3, h4, h5, h6, _⟩ | ⟨h1, h2, h3, _⟩
  · rw [h5] at HE
    obtain ⟨g, cap, hev, _⟩ := h.mem.cell_ent h4
    subst hev
    rw [h1, if_pos rfl]
    have hEP : entP (.slice (some ⟨g, 0, none⟩) es.length cap) (i : Int) = .pointer (some ⟨g, i * 7, none⟩) := by unfold entP; rw [if_neg (by omega), Int.toNat_natCast]
    rw [hEP] at HE
    have H4 := Lib.hid h4
    have H3 := Lib.hid h3
    have HL := Lib.hid hL
    have HN := Lib.hid hN
    generalize hkv : keyV x = kk at *
    obtain ⟨lv, hlv⟩ : ∃ lv : Int, (liveL (absE es) : Int) = lv := ⟨_, rfl⟩
    have hlv0 : 0 ≤ lv ∧ lv ≤ 1048576 := ⟨by omega, by have h1 : liveL (absE es) ≤ (absE es).length := List.countP_le_length; have h2 := absE_len es; have h3 := h.tab.fill; have h4 := h.tab.top; omega⟩
    have HLV := Lib.hid hlv
    have hdr0 : (0 : Int) ≤ (es.length : Int) - (absE es).length ∧ (es.length : Int) - (absE es).length ≤ 1048576 := ⟨by have h2 := absE_len es; omega, by have h3 := h.tab.fill; have h4 := h.tab.top; omega⟩
    clear hlv
    clear h h1 h2 h3 h4 h5 h6 hEP hL hN hkv
    obtain ⟨x1, x2, x3⟩ := x
    go_enter Try.func45, Try.ntmps45
    go_upto_region 4 with (go_at_call 108; (with_reducible refine (HE.out _ (HI.out.below HB0.out)).mono ?_); rintro e w1 ⟨rfl, hb⟩; have HB1 := Lib.hid (HB0.out.trans (hb.mono HB0.out.size)); clear hb)
    have HI1 := Lib.hid (HI.out.below HB1.out)
    have q3 : ∀ W, Below w1.heap.size w1 W → W.cell? ⟨d, 3, none⟩ = some (.int .i64 (liveL (absE es) : Nat)) := fun W hW => (HI1.out.below hW).mem.hd.cell 3 _ rfl
    have qe : ∀ W, Below w1.heap.size w1 W → W.cell? ⟨g, i * 7 + 3, none⟩ = some (.int .i64 v.k) ∧ W.cell? ⟨g, i * 7 + 4, none⟩ = some (.int .i64 v.n) ∧ W.cell? ⟨g, i * 7 + 5, none⟩ = some (.string v.s) := fun W hW => by
      obtain ⟨g', cap', he, _, _, hc⟩ := (HI1.out.below hW).mem.cell_ent H4.out
      cases he
      exact ⟨hc 3 _ (by decide) rfl, hc 4 _ (by decide) rfl, hc 5 _ (by decide) rfl⟩
    have u3 := fun W hW => (qe W hW).1
    have u4 := fun W hW => (qe W hW).2.1
    have u5 := fun W hW => (qe W hW).2.2
    clear qe
    have hB0 : Below w1.heap.size w1 ({ w1 with drawn := w1.drawn + 1 } : World) := ⟨rfl, rfl, rfl, Nat.le_refl _, fun _ _ => rfl⟩
    have HV := Lib.hid (fun (W : World) => lives_calls v W)
    obtain ⟨v1, v2, v3⟩ := v
    refine RG.region_F (Below w1.heap.size w1) 12 (by kernel_rfl) ?_
    have hS0 := hB0
    generalize ({ w1 with drawn := w1.drawn + 1 } : World) = w2 at hS0 hB0 ⊢
    refine RG.takeF 0 (oi := ⟨some 11, _, _, _, _, _⟩) (v := ?_) rfl (by kernel_rfl) (by kernel_rfl) (by kernel_rfl) (by kernel_rfl) (fun _ _ _ h => h) (Or.inl ⟨by rfl, ?hy0⟩) hS0 ?rest0
    case hy0 => (intro W hW; (try dsimp only at hW); go_simp; try with_reducible rfl)
    simp only [Act.put, List.setIfInBounds_toArray, List.set_cons_zero, List.set_cons_succ]
    refine RG.takeF 1 (oi := ⟨some 12, _, _, _, _, _⟩) (v := ?_) rfl (by kernel_rfl) (by kernel_rfl) (by kernel_rfl) (by kernel_rfl) (fun _ _ _ h => h) (Or.inl ⟨by rfl, ?hy1⟩) hS0 ?rest1
    case hy1 => (intro W hW; (try dsimp only at hW); go_simp; try with_reducible rfl)
    simp only [Act.put, List.setIfInBounds_toArray, List.set_cons_zero, List.set_cons_succ]
    refine RG.takeF 2 (oi := ⟨some 13, _, _, _, _, _⟩) (v := ?_) rfl (by kernel_rfl) (by kernel_rfl) (by kernel_rfl) (by kernel_rfl) (fun _ _ _ h => h) (Or.inl ⟨by rfl, ?hy2⟩) hS0 ?rest2
    case hy2 => (intro W hW; (try dsimp only at hW); go_simp; try with_reducible rfl)
    simp only [Act.put, List.setIfInBounds_toArray, List.set_cons_zero, List.set_cons_succ]
    refine RG.takeF 3 (oi := ⟨some 14, _, _, _, _, _⟩) (v := ?_) rfl (by kernel_rfl) (by kernel_rfl) (by kernel_rfl) (by kernel_rfl) (fun _ _ _ h => h) (Or.inl ⟨by rfl, ?hy3⟩) hS0 ?rest3
    case hy3 => (intro W hW; (try dsimp only at hW); go_simp; try with_reducible rfl)
    simp only [Act.put, List.setIfInBounds_toArray, List.set_cons_zero, List.set_cons_succ]
    refine RG.takeF 4 (oi := ⟨some 15, _, _, _, _, _⟩) (v := ?_) rfl (by kernel_rfl) (by kernel_rfl) (by kernel_rfl) (by kernel_rfl) (fun _ _ _ h => h) (Or.inl ⟨by rfl, ?hy4⟩) hS0 ?rest4
    case hy4 => (intro W hW; (try dsimp only at hW); go_simp; try with_reducible rfl)
    simp only [Act.put, List.setIfInBounds_toArray, List.set_cons_zero, List.set_cons_succ]
    refine RG.takeF 5 (oi := ⟨some 16, _, _, _, _, _⟩) (v := ?_) rfl (by kernel_rfl) (by kernel_rfl) (by kernel_rfl) (by kernel_rfl) (fun _ _ _ h => h) (Or.inl ⟨by rfl, ?hy5⟩) hS0 ?rest5
    case hy5 => (intro W hW; (try dsimp only at hW); go_simp; try with_reducible rfl)
    simp only [Act.put, List.setIfInBounds_toArray, List.set_cons_zero, List.set_cons_succ]
    refine RG.takeF 6 (oi := ⟨some 17, _, _, _, _, _⟩) (v := ?_) rfl (by kernel_rfl) (by kernel_rfl) (by kernel_rfl) (by kernel_rfl) (fun _ _ _ h => h) (Or.inl ⟨by rfl, ?hy6⟩) hS0 ?rest6
    case hy6 => (intro W hW; (try dsimp only at hW); go_simp; try with_reducible rfl)
    simp only [Act.put, List.setIfInBounds_toArray, List.set_cons_zero, List.set_cons_succ]
    refine RG.takeF 7 (oi := ⟨some 18, _, _, _, _, _⟩) (v := ?_) rfl (by kernel_rfl) (by kernel_rfl) (by kernel_rfl) (by kernel_rfl) (fun _ _ _ h => h) (Or.inl ⟨by rfl, ?hy7⟩) hS0 ?rest7
    case hy7 => (intro W hW; (try dsimp only at hW); go_simp; try with_reducible rfl)
    simp only [Act.put, List.setIfInBounds_toArray, List.set_cons_zero, List.set_cons_succ]
    refine RG.oneF 8 (by kernel_rfl) (by decide) ?_
    refine RG.wpOp_plain rfl rfl fun K hK => ?_
    go_simp
    with_reducible refine (HV.out _).mono ?_
    rintro e w3 ⟨rfl, hb⟩
    have hB3 : Below w1.heap.size w1 w3 := hB0.trans (hb.mono hB0.size)
    refine hK _ _ ⟨hB3, ?_⟩
    clear hK K
    try simp only [Act.put, List.setIfInBounds_toArray, List.set_cons_zero, List.set_cons_succ]
    have hlv : (liveL (absE es) : Int) = lv := HLV.out
    rw [hlv]
    have hlb := lives_01 ⟨v1, v2, v3⟩
    obtain ⟨lx, hlx⟩ : ∃ lx, Val.lives ⟨v1, v2, v3⟩ = lx := ⟨_, rfl⟩
    have HLX := Lib.hid hlx
    rw [hlx] at hlb ⊢
    clear hlx
    refine RG.oneF 9 (by kernel_rfl) (by decide) ?_
    refine RG.wpOp_plain rfl rfl fun K hK => ?_
    go_simp
    refine hK _ _ ⟨hB3, ?_⟩
    clear hK K
    try simp only [Act.put, List.setIfInBounds_toArray, List.set_cons_zero, List.set_cons_succ]
    refine RG.oneF 10 (by kernel_rfl) (by decide) ?_
    refine RG.wpOp_plain rfl rfl fun K hK => ?_
    go_simp
    refine hK _ _ ⟨hB3, ?_⟩
    clear hK K
    try simp only [Act.put, List.setIfInBounds_toArray, List.set_cons_zero, List.set_cons_succ]
    refine RG.oneF 11 (by kernel_rfl) (by decide) ?_
    refine RG.wpOp_plain rfl rfl fun K hK => ?_
    go_simp
    refine hK _ _ ⟨hB3, ?_⟩
    clear hK K
    try simp only [Act.put, List.setIfInBounds_toArray, List.set_cons_zero, List.set_cons_succ]
    have hd3 := (HI1.out.below hB3).mem.hd
    have x3 := hd3.cell 3 _ rfl
    have f3 := hd3.frozen 3
    refine RG.lastF (by kernel_rfl) (by kernel_rfl) ?_
    refine RG.wpOp_plain rfl rfl fun K hK => ?_
    go_simp
    refine hK _ _ ?_
    clear hK K
    try simp only [Act.put, List.setIfInBounds_toArray, List.set_cons_zero, List.set_cons_succ]
    have hI3 := HI1.out.below hB3
    have hdg : d ≠ g := blk_ne_row hI3.mem.hd hI3.mem.rows rfl (by decide)
    have hdt : d ≠ tb := hI3.mem.hd.ne hI3.mem.tab (by decide)
    have hgt : tb ≠ g := blk_ne_row hI3.mem.tab hI3.mem.rows rfl (by decide)
    have HI3 := Lib.hid hI3
    have hd4 := hd3.setSame 3 (.int .i64 (lv - lx))
    have c2 := hd4.cell 2 _ rfl
    have f2 := hd4.frozen 2
    have hr0 := row_frozen hI3.mem.rows
    have r0 := hr0 (i * 7)
    have r1 := hr0 (i * 7 + 1)
    have r2 := hr0 (i * 7 + 2)
    have r3 := hr0 (i * 7 + 3)
    have r4 := hr0 (i * 7 + 4)
    have r5 := hr0 (i * 7 + 5)
    have r6 := hr0 (i * 7 + 6)
    obtain ⟨g', cap', he, _, _, hcl⟩ := hI3.mem.cell_ent H4.out
    cases he
    have y0 := hcl 0 _ (by decide) rfl
    have y1 := hcl 1 _ (by decide) rfl
    have y2 := hcl 2 _ (by decide) rfl
    have y3 := hcl 3 _ (by decide) rfl
    have y4 := hcl 4 _ (by decide) rfl
    have y5 := hcl 5 _ (by decide) rfl
    have y6 := hcl 6 _ (by decide) rfl
    rw [Nat.add_zero] at y0
    have HB3 := Lib.hid hB3
    clear hI3 hr0 hcl
    go_wp2
    go_ret
    have HB4 := Lib.hid (HB1.out.trans (HB3.out.mono HB1.out.size))
    refine ⟨rfl, ⟨es.set i none, _, tb, T, HI3.out.dropped H4.out _ _ rfl (by rw [HLV.out, HLX.out]), ?_, ?_⟩, ?_⟩
    · rw [← HL.out]
      exact absE_drop HI3.out.uniq (getD_of_get H4.out)
    · rw [List.length_set]; exact HN.out
    · have hg : X g := HI3.out.ownE g rfl
      have hdX : X d := HI3.out.ownD
      exact ((((((((((Chg.ofBelow HB4.out).setCell (fun _ => hdX) _).setCell (fun _ => hdX) _).setCell (fun _ => hg) _).setCell (fun _ => hg) _).setCell (fun _ => hg) _).setCell (fun _ => hg) _).setCell (fun _ => hg) _).setCell (fun _ => hg) _).setCell (fun _ => hg) _)
  · rw [h3] at HE
    rw [h1, if_neg (by decide)]
    rw [show entP ev (-1) = .pointer none from rfl] at HE
    clear h h1 h2 h3
    obtain ⟨x1, x2, x3⟩ := x
    go_enter Try.func45, Try.ntmps45
    go_wp2_with (go_at_call 108; (with_reducible refine (HE.out _ (HI.out.below HB0.out)).mono ?_); rintro e w1 ⟨rfl, hb⟩; have HB1 := Lib.hid (HB0.out.trans (hb.mono HB0.out.size)); clear hb)
    go_ret
    exact ⟨rfl, HD.out.below HB1.out, Chg.ofBelow HB1.out⟩
end
end Go.Proofs.Ytmjfmfelbmbniaa
