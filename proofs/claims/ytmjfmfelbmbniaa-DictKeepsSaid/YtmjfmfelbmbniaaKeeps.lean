/- Layer 13: DictKeeps. -/
import Derived.Test.YtmjfmfelbmbniaaKeepsM
namespace Go.Proofs.Ytmjfmfelbmbniaa
open Go.RowKit Go.Maps HK ShM
set_option linter.unusedVariables false
set_option linter.unusedSimpArgs false
set_option maxHeartbeats 8000000 in
set_option maxRecDepth 20000 in
theorem keeps_walk (lv : Value) (l : List OpV) (y : Val) (w : World) (hl : RdO w lv l) (h72 : l.length * 72 ≤ 140737488351232) (hy : y.s.size ≤ 140737488355328) : Calls Try.prog 10 #[lv, y.v] w fun e w' => e = .returned (.bool true) ∧ Below w.heap.size w w' := by
  have HL := Lib.hid hl
  have HLN := Lib.hid h72
  have HAL := Lib.hid (fun (W : World) => dalive_calls W)
  have HGR := Lib.hid (fun (v : Value) (l : List OpV) (W : World) (h : RdO W v l) => dgreat_calls v l W h)
  have hym : y.s.size ≤ maxLen := by have : maxLen = 9223372036854775807 := rfl; omega
  have hbx : Blk (w.alloc (.cells #[.int .i64 y.k, .int .i64 y.n, .string y.s] 57)) w.heap.size 57 y.cells := Blk.new w y.cells 57
  have HB0 : Hid (Below w.heap.size w (w.alloc (.cells #[.int .i64 y.k, .int .i64 y.n, .string y.s] 57))) := Lib.hid ((Below.refl _ _).alloc (Nat.le_refl _) _)
  have HBX := Lib.hid hbx
  have HYM := Lib.hid hym
  have HY := Lib.hid hy
  clear hbx hym hy h72
  obtain ⟨la, lc, hlv, _⟩ := hl
  subst hlv
  obtain ⟨n2, hn2⟩ : ∃ n, n = l.length := ⟨_, rfl⟩
  have E2 := Lib.hid hn2
  rw [← hn2] at HL ⊢
  clear hn2
  obtain ⟨y1, y2, y3⟩ := y
  go_enter Try.func10, Try.ntmps10
  go_upto_region 3 with (go_at_call 40; (with_reducible refine (HAL.out _).mono ?_); rintro e w1 ⟨rfl, hb⟩; have HB1 := Lib.hid (HB0.out.trans (hb.mono HB0.out.size)); have HBX1 := Lib.hid (HBX.out.of (hb.block _ HBX.out.lt)); clear hb; have x0 := HBX1.out.cell 0 _ rfl; have x1 := HBX1.out.cell 1 _ rfl; have x2 := HBX1.out.cell 2 _ rfl)
  have hb1' : Below w.heap.size w (w1.alloc (.cells #[.int .i64 0, .int .i64 y1, .int .i64 y2, .string y3, .int .i64 0, .int .i64 0, .string ⟨#[]⟩] 59)) := HB1.out.alloc HB1.out.size _
  obtain ⟨va, w2, r2, ho2, hb2⟩ := run_append_ops (w1.alloc (.cells #[.int .i64 0, .int .i64 y1, .int .i64 y2, .string y3, .int .i64 0, .int .i64 0, .string ⟨#[]⟩] 59)) w1.heap.size w1.heap.size ⟨0, ⟨y1, y2, y3⟩, Val.nil⟩ (World.ownsRow_lit w1 #[.int .i64 0, .int .i64 y1, .int .i64 y2, .string y3, .int .i64 0, .int .i64 0, .string ⟨#[]⟩] 1 (Nat.le_refl _) (by decide) rfl) ⟨HY.out, Nat.zero_le _⟩ (.slice la n2 lc) l (HL.out.below hb1' (Nat.le_refl _)) HLN.out (by simp)
  have R2 := Lib.hid r2
  have HO2 := Lib.hid ho2
  have HB2 := Lib.hid (hb1'.trans (hb2.mono HB1.out.size))
  have hbx2 := HBX1.out.alloc (.cells #[.int .i64 0, .int .i64 y1, .int .i64 y2, .string y3, .int .i64 0, .int .i64 0, .string ⟨#[]⟩] 59)
  have HBX2 := Lib.hid (hbx2.of (hb2.block _ HBX1.out.lt))
  clear r2 ho2 hb1' hbx2 hb2
  go_upto_region 5 with (first
    | (at_builtin; refine RG.wpList_append_run (v := .slice (some ⟨w1.heap.size, 0, none⟩) 1 1) (v2 := .slice la n2 lc) rfl _ _ 51 51 rfl rfl rfl R2.out ?_; try simp only [Act.put, List.setIfInBounds_toArray, List.set_cons_zero, List.set_cons_succ])
    | (go_at_call 41; (with_reducible refine (HGR.out _ _ _ HO2.out).mono ?_); rintro e w3 ⟨g, rfl, hg, hb⟩; have HB3 := Lib.hid (HB2.out.trans (hb.mono HB2.out.size)); have HBX3 := Lib.hid (HBX2.out.of (hb.block _ HBX2.out.lt)); have HG := Lib.hid hg; clear hb hg; cases g))
  rotate_left
  · go_ret
    exact ⟨rfl, HB3.out⟩
  have hn600 : n2 ≤ 600 := by have := HG.out trivial; rw [List.length_cons] at this; rw [E2.out]; omega
  have HNW := Lib.hid (Dct.new (fun _ => False) w w3 HB3.out (fun b h => h.elim) [(w.heap.size, ⟨y1, y2, y3⟩)] (fun p hp => by simp at hp; subst hp; exact HBX3.out))
  clear x0 x1 x2
  go_wp2_with (go_at_call 42; (with_reducible refine HNW.out.mono ?_); rintro e w4 ⟨d, rfl, h1, hb1⟩; have HD := Lib.hid h1; clear h1 hb1)
  have HD0 := Lib.hid (HD.out.alloc Val.nil w4.heap.size rfl)
  have hbwl : w.heap.size < w4.heap.size := (HD.out.box (b := w.heap.size) (v := ⟨y1, y2, y3⟩) (by simp)).lt
  obtain ⟨bw, hbw⟩ : ∃ b, b = w4.heap.size := ⟨_, rfl⟩
  rw [← hbw] at HD0 hbwl ⊢
  have HBWL := Lib.hid hbwl
  have HKEEP0 : Hid (getV [] ⟨y1, y2, y3⟩ = Val.nil) := Lib.hid (by unfold getV; split <;> rfl)
  clear hbw HD HNW HBX3 HBX2 HBX1 HBX
  go_loopw [23] (fun ii wr => ∃ (j : Nat), j ≤ n2 ∧ ii = .int .i64 j ∧ Hid (∃ L W, Dct (fun _ => False) w wr d L j [(bw, W), (w.heap.size, ⟨y1, y2, y3⟩)] ∧ getV L ⟨y1, y2, y3⟩ = W)) (fun ii _ => n2 - (intOf ii).toNat)
  case atStart => exact ⟨0, Nat.zero_le _, rfl, Lib.hid ⟨[], Val.nil, HD0.out, HKEEP0.out⟩⟩
  case round =>
    obtain ⟨j, hj, rfl, hre⟩ := hrel
    obtain ⟨L, W, hD, hK⟩ := hre.out
    by_cases hlt : j < n2
    · have hjl : j < l.length := by rw [← E2.out]; exact hlt
      obtain ⟨x, hx⟩ : ∃ x, l[j]? = some x := ⟨_, List.getElem?_eq_getElem hjl⟩
      have hro := HL.out.below hD.bel (Nat.le_refl _)
      obtain ⟨a', c', he, hc1, hc2, _, hcl⟩ := hro
      have hc1' : n2 ≤ lc := by cases he; rw [E2.out]; exact hc1
      have hc2' : lc ≤ 9223372036854775807 := by cases he; exact hc2
      obtain ⟨⟨hs1, hs2⟩, b, off, hab, hcs⟩ := hcl j x hx
      have hla : la = some ⟨b, off, none⟩ := by cases he; exact hab
      subst hla
      have hj0 : (0 : Int) ≤ (j : Int) := by omega
      have hj1 : (j : Int) < (n2 : Int) := by omega
      have u0 := hcs 0 _ rfl
      have u1 := hcs 1 _ rfl
      have u2 := hcs 2 _ rfl
      have u3 := hcs 3 _ rfl
      have u4 := hcs 4 _ rfl
      have u5 := hcs 5 _ rfl
      have u6 := hcs 6 _ rfl
      rw [Nat.add_zero] at u0
      have hcp := Blk.new wr x.cells 59
      have hz := (hD.zone (Y := fun b => b = wr.heap.size) (fun b hb => .inr (by omega))).below (w' := wr.alloc (.cells #[.int .i64 x.c, .int .i64 x.k.k, .int .i64 x.k.n, .string x.k.s, .int .i64 x.v.k, .int .i64 x.v.n, .string x.v.s] 59)) ((Below.refl _ _).alloc (Nat.le_refl _) _)
      have HCP := Lib.hid hcp
      have HZ := Lib.hid hz
      have HK := Lib.hid hK
      have hxs : x.k.s.size ≤ maxLen := by have : maxLen = 9223372036854775807 := rfl; omega
      have HSET := Lib.hid (HZ.out.set (fun b hb => by subst hb; simp) (by omega) x.k x.v hxs)
      have HTY := Lib.hid (fun (W : World) => type_calls x.k W)
      have HRW := Lib.hid (fun (W : World) => raw_calls x.k ⟨y1, y2, y3⟩ W)
      have HOW := Lib.hid (fun (W : World) => own_calls x.v W)
      have hbc : w.heap.size ≠ wr.heap.size := by have := (hD.box (b := w.heap.size) (v := ⟨y1, y2, y3⟩) (by simp)).lt; omega
      have hbc2 : bw ≠ wr.heap.size := by have := (hD.box (b := bw) (v := W) (by simp)).lt; omega
      obtain ⟨cb, hcb⟩ : ∃ cb, cb = wr.heap.size := ⟨_, rfl⟩
      have HCB := Lib.hid hcb
      clear hcp hz hK hcs hcl hab he hx hjl hD hre hc1 hc2 hxs
      cases hbad : x.k.bad with
      | false =>
        have hE : keyE x.k = 0 := by unfold keyE; rw [hbad]; rfl
        rw [hE] at HSET
        have HBAD := Lib.hid hbad
        have hkk : x.k.k ≠ 0 := fun e => by unfold Val.bad at hbad; rw [e] at hbad; simp at hbad
        have hts : ∃ ts : ByteArray, typeS x.k.k = ts ∧ ts.toList.isEmpty = false := ⟨_, rfl, by
          unfold Val.bad Val.strange at hbad
          simp only [Bool.or_eq_false_iff, decide_eq_false_iff_not] at hbad
          have h7 : x.k.k = 1 ∨ x.k.k = 2 ∨ x.k.k = 3 ∨ x.k.k = 4 ∨ x.k.k = 5 ∨ x.k.k = 6 ∨ x.k.k = 7 := by omega
          rcases h7 with h | h | h | h | h | h | h <;> rw [h] <;> exact toList_some _ (by decide)⟩
        obtain ⟨ts, hts, hts0⟩ := hts
        rw [hts] at HTY
        have hk0 : (x.k.k != 0) = true := by simp [hkk]
        clear hbad hE hts hkk
        obtain ⟨xc, ⟨k1, k2, k3⟩, ⟨v1, v2, v3⟩⟩ := x
        go_upto_region 11 with (go_at_call 44; (with_reducible refine HSET.out.mono ?_); rintro e w5 ⟨rfl, h, hsz, hzz⟩; have HD5 := Lib.hid h; have HCP5 := Lib.hid (HCP.out.of (hzz _ rfl)); clear h hzz)
        have x1 := HCP5.out.cell 1 _ rfl
        have x2 := HCP5.out.cell 2 _ rfl
        have x3 := HCP5.out.cell 3 _ rfl
        clear hcb
        go_upto_region 13 with (go_at_call 57; (with_reducible refine (HTY.out _).mono ?_); rintro e w6 ⟨rfl, hb⟩; have HD6 := Lib.hid (HD5.out.below hb); have HCP6 := Lib.hid (HCP5.out.of (hb.block _ HCP5.out.lt)); clear hb; have z1 := HCP6.out.cell 1 _ rfl; have z2 := HCP6.out.cell 2 _ rfl; have z3 := HCP6.out.cell 3 _ rfl)
        have y0' := (HD6.out.box (b := w.heap.size) (v := ⟨y1, y2, y3⟩) (by simp)).cell 0 _ rfl
        have y1' := (HD6.out.box (b := w.heap.size) (v := ⟨y1, y2, y3⟩) (by simp)).cell 1 _ rfl
        have y2' := (HD6.out.box (b := w.heap.size) (v := ⟨y1, y2, y3⟩) (by simp)).cell 2 _ rfl
        have HSTEP := Lib.hid (keep_step (v := ⟨v1, v2, v3⟩) HBAD.out HK.out)
        clear x1 x2 x3 u0 u1 u2 u3 u4 u5 u6
        cases hr : rawV ⟨k1, k2, k3⟩ ⟨y1, y2, y3⟩ with
        | false =>
          rw [hr] at HRW HSTEP
          clear hr
          go_wp2_with (go_at_call 58; (with_reducible refine (HRW.out _).mono ?_); rintro e w7 ⟨rfl, hb⟩; have HD7 := Lib.hid (HD6.out.below hb); clear hb)
          go_roundw
          case rel => exact ⟨j + 1, by omega, by go_num, Lib.hid ⟨_, W, HD7.out.zone (fun b hb => hb.elim), HSTEP.out⟩⟩
          case measure => simp [intOf]; omega
        | true =>
          rw [hr] at HRW HSTEP
          clear hr
          generalize Val.own ⟨v1, v2, v3⟩ = o at *
          obtain ⟨o1, o2, o3⟩ := o
          go_wp2_with (first
            | (go_at_call 58; (with_reducible refine (HRW.out _).mono ?_); rintro e w7 ⟨rfl, hb⟩; have HD7 := Lib.hid (HD6.out.below hb); have HCP7 := Lib.hid (HCP6.out.of (hb.block _ HCP6.out.lt)); clear hb; have g4 := HCP7.out.cell 4 _ rfl; have g5 := HCP7.out.cell 5 _ rfl; have g6 := HCP7.out.cell 6 _ rfl)
            | (go_at_call 59; (with_reducible refine (HOW.out _).mono ?_); rintro e w8 ⟨rfl, hb⟩; have HD8 := Lib.hid (HD7.out.below hb); clear hb; have hbx := HD8.out.box (b := bw) (v := W) (by simp); have HBX8 := Lib.hid hbx; have f0 := hbx.cell 0 _ rfl; have f1 := hbx.cell 1 _ rfl; have f2 := hbx.cell 2 _ rfl; have n0 := hbx.frozen 0; have n1 := hbx.frozen 1; have n2' := hbx.frozen 2; clear hbx))
          go_roundw
          case rel => exact ⟨j + 1, by omega, by go_num, Lib.hid ⟨_, ⟨o1, o2, o3⟩, (HD8.out.store (b := bw) (v := W) (by simp) ⟨o1, o2, o3⟩ (Nat.le_of_lt HBWL.out) (fun p hp => by
            simp only [List.mem_cons, List.not_mem_nil, or_false] at hp ⊢
            rcases hp with rfl | rfl
            · exact .inl rfl
            · exact .inr ⟨.inr rfl, Nat.ne_of_lt HBWL.out⟩)).zone (fun b hb => hb.elim), HSTEP.out⟩⟩
          case measure => simp [intOf]; omega
      | true =>
        have hE : keyE x.k = 15 := by unfold keyE; rw [hbad]; rfl
        rw [hE] at HSET
        have HKB := Lib.hid (keep_bad (L := L) (v := x.v) hbad)
        have hts : ∃ ts : ByteArray, typeS x.k.k = ts ∧ (ts.toList.isEmpty = false ∧ (x.k.k != 0) = false ∨ ts.toList.isEmpty = true) := ⟨_, rfl, by
          unfold Val.bad Val.strange at hbad
          simp only [Bool.or_eq_true, decide_eq_true_eq] at hbad
          by_cases h0 : x.k.k = 0
          · rw [h0]; exact .inl ⟨toList_some _ (by decide), by simp⟩
          · refine .inr ?_
            have : typeS x.k.k = ⟨#[]⟩ := by
              unfold typeS
              repeat rw [if_neg (by omega)]
            rw [this]
            exact toList_none _ (by decide)⟩
        obtain ⟨ts, hts, hcase⟩ := hts
        rw [hts] at HTY
        obtain ⟨rb, hrb⟩ : ∃ rb, rawV x.k ⟨y1, y2, y3⟩ = rb := ⟨_, rfl⟩
        rw [hrb] at HRW
        clear hbad hE hts hcb hrb
        obtain ⟨xc, ⟨k1, k2, k3⟩, ⟨v1, v2, v3⟩⟩ := x
        dsimp only at hcase
        rcases hcase with ⟨hcase, hk0⟩ | hcase
        all_goals
          cases rb
          all_goals
            go_upto_region 11 with (go_at_call 44; (with_reducible refine HSET.out.mono ?_); rintro e w5 ⟨rfl, h, hsz, hzz⟩; have HD5 := Lib.hid h; have HCP5 := Lib.hid (HCP.out.of (hzz _ rfl)); clear h hzz)
            have x1 := HCP5.out.cell 1 _ rfl
            have x2 := HCP5.out.cell 2 _ rfl
            have x3 := HCP5.out.cell 3 _ rfl
            go_upto_region 13 with (go_at_call 57; (with_reducible refine (HTY.out _).mono ?_); rintro e w6 ⟨rfl, hb⟩; have HD6 := Lib.hid (HD5.out.below hb); have HCP6 := Lib.hid (HCP5.out.of (hb.block _ HCP5.out.lt)); clear hb; have z1 := HCP6.out.cell 1 _ rfl; have z2 := HCP6.out.cell 2 _ rfl; have z3 := HCP6.out.cell 3 _ rfl)
            have y0' := (HD6.out.box (b := w.heap.size) (v := ⟨y1, y2, y3⟩) (by simp)).cell 0 _ rfl
            have y1' := (HD6.out.box (b := w.heap.size) (v := ⟨y1, y2, y3⟩) (by simp)).cell 1 _ rfl
            have y2' := (HD6.out.box (b := w.heap.size) (v := ⟨y1, y2, y3⟩) (by simp)).cell 2 _ rfl
            clear x1 x2 x3 u0 u1 u2 u3 u4 u5 u6
            go_wp2_with (go_at_call 58; (with_reducible refine (HRW.out _).mono ?_); rintro e w7 ⟨rfl, hb⟩; have HD7 := Lib.hid (HD6.out.below hb); clear hb)
            go_roundw
            case rel => exact ⟨j + 1, by omega, by go_num, Lib.hid ⟨_, W, HD7.out.zone (fun b hb => hb.elim), by rw [HKB.out]; exact HK.out⟩⟩
            case measure => simp [intOf]; omega
    · obtain rfl : j = n2 := by omega
      have HDW := Lib.hid hD
      have HGT := Lib.hid (fun (W' : World) (h : Below wr.heap.size wr W') => (hD.below h).get ⟨y1, y2, y3⟩ HYM.out)
      have hos : (Val.own ⟨y1, y2, y3⟩).s.size ≤ maxLen := own_size HYM.out
      have HGO := Lib.hid (fun (W' : World) (h : Below wr.heap.size wr W') => (hD.below h).get (Val.own ⟨y1, y2, y3⟩) hos)
      rw [getV_own, hK] at HGO
      rw [hK] at HGT
      have HOW := Lib.hid (fun (W' : World) => own_calls ⟨y1, y2, y3⟩ W')
      generalize Val.own ⟨y1, y2, y3⟩ = o at *
      obtain ⟨o1, o2, o3⟩ := o
      obtain ⟨W1, W2, W3⟩ := W
      have p0 : ∀ W', Below wr.heap.size wr W' → W'.cell? ⟨bw, 0, none⟩ = some (.int .i64 W1) := fun W' hW => ((HDW.out.below hW).box (b := bw) (v := ⟨W1, W2, W3⟩) (by simp)).cell 0 _ rfl
      have p1 : ∀ W', Below wr.heap.size wr W' → W'.cell? ⟨bw, 1, none⟩ = some (.int .i64 W2) := fun W' hW => ((HDW.out.below hW).box (b := bw) (v := ⟨W1, W2, W3⟩) (by simp)).cell 1 _ rfl
      have p2 : ∀ W', Below wr.heap.size wr W' → W'.cell? ⟨bw, 2, none⟩ = some (.string W3) := fun W' hW => ((HDW.out.below hW).box (b := bw) (v := ⟨W1, W2, W3⟩) (by simp)).cell 2 _ rfl
      have q0 : ∀ W', Below wr.heap.size wr W' → W'.cell? ⟨w.heap.size, 0, none⟩ = some (.int .i64 y1) := fun W' hW => ((HDW.out.below hW).box (b := w.heap.size) (v := ⟨y1, y2, y3⟩) (by simp)).cell 0 _ rfl
      have q1 : ∀ W', Below wr.heap.size wr W' → W'.cell? ⟨w.heap.size, 1, none⟩ = some (.int .i64 y2) := fun W' hW => ((HDW.out.below hW).box (b := w.heap.size) (v := ⟨y1, y2, y3⟩) (by simp)).cell 1 _ rfl
      have q2 : ∀ W', Below wr.heap.size wr W' → W'.cell? ⟨w.heap.size, 2, none⟩ = some (.string y3) := fun W' hW => ((HDW.out.below hW).box (b := w.heap.size) (v := ⟨y1, y2, y3⟩) (by simp)).cell 2 _ rfl
      clear hD hK hre hos
      go_upto_region 16 with (fail)
      refine QB.region wr (by kernel_rfl) (by kernel_rfl) (Below.refl _ _) ?_
      refine QB.step (v := ?_) (by rfl) ?_ ?_
      rotate_left
      · (intro W hW; (try dsimp only at hW); go_simp; try with_reducible rfl)
      try simp only [Act.put, List.setIfInBounds_toArray, List.set_cons_zero, List.set_cons_succ]
      refine QB.step (v := ?_) (by rfl) ?_ ?_
      rotate_left
      · (intro W hW; (try dsimp only at hW); go_simp; try with_reducible rfl)
      try simp only [Act.put, List.setIfInBounds_toArray, List.set_cons_zero, List.set_cons_succ]
      refine QB.step (v := ?_) (by rfl) ?_ ?_
      rotate_left
      · (intro W hW; (try dsimp only at hW); go_simp; with_reducible refine (HGT.out _ hW).mono ?_; rintro e w'' ⟨rfl, hb⟩; refine ⟨?_, hW.trans (hb.mono hW.size)⟩; with_reducible rfl)
      try simp only [Act.put, List.setIfInBounds_toArray, List.set_cons_zero, List.set_cons_succ]
      refine QB.step (v := ?_) (by rfl) ?_ ?_
      rotate_left
      · (intro W hW; (try dsimp only at hW); go_simp; try with_reducible rfl)
      try simp only [Act.put, List.setIfInBounds_toArray, List.set_cons_zero, List.set_cons_succ]
      refine QB.step (v := ?_) (by rfl) ?_ ?_
      rotate_left
      · (intro W hW; (try dsimp only at hW); go_simp; try with_reducible rfl)
      try simp only [Act.put, List.setIfInBounds_toArray, List.set_cons_zero, List.set_cons_succ]
      refine QB.step (v := ?_) (by rfl) ?_ ?_
      rotate_left
      · (intro W hW; (try dsimp only at hW); go_simp; try with_reducible rfl)
      try simp only [Act.put, List.setIfInBounds_toArray, List.set_cons_zero, List.set_cons_succ]
      refine QB.step (v := ?_) (by rfl) ?_ ?_
      rotate_left
      · (intro W hW; (try dsimp only at hW); go_simp; try with_reducible rfl)
      try simp only [Act.put, List.setIfInBounds_toArray, List.set_cons_zero, List.set_cons_succ]
      refine QB.step (v := ?_) (by rfl) ?_ ?_
      rotate_left
      · (intro W hW; (try dsimp only at hW); go_simp; try with_reducible rfl)
      try simp only [Act.put, List.setIfInBounds_toArray, List.set_cons_zero, List.set_cons_succ]
      refine QB.step (v := ?_) (by rfl) ?_ ?_
      rotate_left
      · (intro W hW; (try dsimp only at hW); go_simp; with_reducible refine (HOW.out _).mono ?_; rintro e w'' ⟨rfl, hb⟩; refine ⟨?_, hW.trans (hb.mono hW.size)⟩; with_reducible rfl)
      try simp only [Act.put, List.setIfInBounds_toArray, List.set_cons_zero, List.set_cons_succ]
      refine QB.step (v := ?_) (by rfl) ?_ ?_
      rotate_left
      · (intro W hW; (try dsimp only at hW); go_simp; with_reducible refine (HGO.out _ hW).mono ?_; rintro e w'' ⟨rfl, hb⟩; refine ⟨?_, hW.trans (hb.mono hW.size)⟩; with_reducible rfl)
      try simp only [Act.put, List.setIfInBounds_toArray, List.set_cons_zero, List.set_cons_succ]
      refine QB.step (v := ?_) (by rfl) ?_ ?_
      rotate_left
      · (intro W hW; (try dsimp only at hW); go_simp; try with_reducible rfl)
      try simp only [Act.put, List.setIfInBounds_toArray, List.set_cons_zero, List.set_cons_succ]
      refine QB.step (v := ?_) (by rfl) ?_ ?_
      rotate_left
      · (intro W hW; (try dsimp only at hW); go_simp; try with_reducible rfl)
      try simp only [Act.put, List.setIfInBounds_toArray, List.set_cons_zero, List.set_cons_succ]
      refine QB.step (v := ?_) (by rfl) ?_ ?_
      rotate_left
      · (intro W hW; (try dsimp only at hW); go_simp; try with_reducible rfl)
      try simp only [Act.put, List.setIfInBounds_toArray, List.set_cons_zero, List.set_cons_succ]
      refine QB.step (v := ?_) (by rfl) ?_ ?_
      rotate_left
      · (intro W hW; (try dsimp only at hW); go_simp; try with_reducible rfl)
      try simp only [Act.put, List.setIfInBounds_toArray, List.set_cons_zero, List.set_cons_succ]
      refine wpQuiet_nil ?_
      intro w9 hb9
      go_wp2
      go_ret
      exact ⟨rfl, HDW.out.bel.trans (hb9.mono HDW.out.bel.size)⟩
end Go.Proofs.Ytmjfmfelbmbniaa
