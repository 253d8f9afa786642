/- Layer 13: DictWalks. -/
import Derived.Test.YtmjfmfelbmbniaaWalksM
namespace Go.Proofs.Ytmjfmfelbmbniaa
open Go.RowKit Go.Maps HK ShM
set_option linter.unusedVariables false
set_option linter.unusedSimpArgs false
set_option maxHeartbeats 16000000 in
set_option maxRecDepth 20000 in
theorem walks_walk (lv : Value) (l : List OpV) (cl : Bool) (w : World) (hl : RdO w lv l) : Calls Try.prog 7 #[lv, .bool cl] w fun e w' => e = .returned (.bool true) ∧ Below w.heap.size w w' := by
  have HL := Lib.hid hl
  have HAL := Lib.hid (fun (W : World) => dalive_calls W)
  have HGR := Lib.hid (fun (v : Value) (l : List OpV) (W : World) (h : RdO W v l) => dgreat_calls v l W h)
  have HI := Lib.hid (fun (n : Int) (W : World) => ofInt_calls n W)
  obtain ⟨la, lc, hlv, _⟩ := hl
  subst hlv
  obtain ⟨n2, hn2⟩ : ∃ n, n = l.length := ⟨_, rfl⟩
  have E2 := Lib.hid hn2
  rw [← hn2] at HL ⊢
  clear hn2
  go_enter Try.func7, Try.ntmps7
  go_upto_region 5 with (first
    | (go_at_call 40; (with_reducible refine (HAL.out _).mono ?_); rintro e w1 ⟨rfl, hb⟩; have HB1 := Lib.hid hb; clear hb)
    | (go_at_call 41; (with_reducible refine (HGR.out _ _ _ (HL.out.below HB1.out (Nat.le_refl _))).mono ?_); rintro e w2 ⟨g, rfl, hg, hb⟩; have HB2 := Lib.hid (HB1.out.trans (hb.mono HB1.out.size)); have HG := Lib.hid hg; clear hb hg; cases g))
  rotate_left
  · go_ret
    exact ⟨rfl, HB2.out⟩
  have hn600 : n2 ≤ 600 := by have := HG.out trivial; rw [E2.out]; exact this
  have HNW := Lib.hid (Dct.new (fun _ => False) w w2 HB2.out (fun b h => h.elim) [] (fun p hp => by cases hp))
  go_wp2_with (go_at_call 42; (with_reducible refine HNW.out.mono ?_); rintro e w3 ⟨d, rfl, h1, _⟩; have HD := Lib.hid h1; clear h1)
  clear HNW HGR HAL HG
  go_loopw [6, 35] (fun ov ii wr => ∃ (j : Nat) (L : Pairs), j ≤ n2 ∧ ii = .int .i64 j ∧ Hid (Dct (fun b => ov.ownBlock = some b) w wr d L j [] ∧ OwnV wr w.heap.size ov (keysOf L))) (fun _ ii _ => n2 - (intOf ii).toNat)
  case atStart => exact ⟨0, [], Nat.zero_le _, rfl, Lib.hid ⟨HD.out.zone (fun b hb => by cases hb), OwnV.nil _ _⟩⟩
  case round =>
    obtain ⟨j, L, hj, rfl, hre⟩ := hrel
    by_cases hlt : j < n2
    · have hjl : j < l.length := by rw [← E2.out]; exact hlt
      obtain ⟨x, hx⟩ : ∃ x, l[j]? = some x := ⟨_, List.getElem?_eq_getElem hjl⟩
      have hro := HL.out.below hre.out.1.bel (Nat.le_refl _)
      obtain ⟨a', c', he, hc1, hc2, _, hcl⟩ := hro
      have hc1' : n2 ≤ lc := by cases he; rw [E2.out]; exact hc1
      have hc2' : lc ≤ 9223372036854775807 := by cases he; exact hc2
      obtain ⟨⟨hs1, hs2⟩, b, off, hab, hcs⟩ := hcl j x hx
      have hla : la = some ⟨b, off, none⟩ := by cases he; exact hab
      subst hla
      have hj0 : (0 : Int) ≤ (j : Int) := by omega
      have hj1 : (j : Int) < (n2 : Int) := by omega
      have u0 := hcs 0 _ rfl
      have u1 := hcs 1 _ rfl
      have u2 := hcs 2 _ rfl
      have u3 := hcs 3 _ rfl
      have u4 := hcs 4 _ rfl
      have u5 := hcs 5 _ rfl
      have u6 := hcs 6 _ rfl
      rw [Nat.add_zero] at u0
      obtain ⟨oa, oc, hov, _, _⟩ := hre.out.2.form
      subst hov
      have hkl := hre.out.1.len_le
      rw [keysOf_len] at *
      have HR := Lib.hid hre.out
      obtain ⟨cb, hcb⟩ : ∃ cb, cb = wr.heap.size := ⟨_, rfl⟩
      have hcp : Blk (wr.alloc (.cells #[.int .i64 x.c, .int .i64 x.k.k, .int .i64 x.k.n, .string x.k.s, .int .i64 x.v.k, .int .i64 x.v.n, .string x.v.s] 59)) cb 59 x.cells := by rw [hcb]; exact Blk.new wr x.cells 59
      have hz := (hre.out.1.zone (Y := fun b => (Value.slice oa L.length oc).ownBlock = some b ∨ b = cb) (fun b hb => hb.imp id (fun h => by omega))).below (w' := wr.alloc (.cells #[.int .i64 x.c, .int .i64 x.k.k, .int .i64 x.k.n, .string x.k.s, .int .i64 x.v.k, .int .i64 x.v.n, .string x.v.s] 59)) ((Below.refl _ _).alloc (Nat.le_refl _) _)
      have HCP := Lib.hid hcp
      have HZ := Lib.hid hz
      have HOV := Lib.hid (hre.out.2.below (w' := wr.alloc (.cells #[.int .i64 x.c, .int .i64 x.k.k, .int .i64 x.k.n, .string x.k.s, .int .i64 x.v.k, .int .i64 x.v.n, .string x.v.s] 59)) ((Below.refl _ _).alloc (Nat.le_refl _) _))
      have hxs : x.k.s.size ≤ maxLen := by have : maxLen = 9223372036854775807 := rfl; omega
      have HXS := Lib.hid hxs
      have HKY := Lib.hid (fun (W : World) => key_calls x.k W)
      obtain ⟨xc, ⟨k1, k2, k3⟩, ⟨v1, v2, v3⟩⟩ := x
      obtain ⟨ky, hky⟩ : ∃ ky, ky = keyV ⟨k1, k2, k3⟩ := ⟨_, rfl⟩
      have HKV := Lib.hid hky
      rw [← hky] at HKY
      obtain ⟨q1, q2, q3⟩ := ky
      clear hcp hz hcs hcl hab he hx hjl hre hc1 hc2 hxs hky hkl
      go_upto_region 11 with (go_at_call 43; (with_reducible refine (HKY.out _).mono ?_); rintro e w4 ⟨rfl, hb⟩; have HD4 := Lib.hid (HZ.out.below hb); have HCP4 := Lib.hid (HCP.out.of (hb.block _ HCP.out.lt)); have HOV4 := Lib.hid (HOV.out.below hb); clear hb)
      obtain ⟨b9, hb9⟩ : ∃ b9, b9 = w4.heap.size := ⟨_, rfl⟩
      obtain ⟨w5, hw5⟩ : ∃ w5, w5 = w4.alloc (.cells #[.int .i64 q1, .int .i64 q2, .string q3] 57) := ⟨_, rfl⟩
      have hb45 : Below w4.heap.size w4 w5 := by rw [hw5]; exact (Below.refl _ _).alloc (Nat.le_refl _) _
      have HD5 : Hid (Dct (fun b => (Value.slice oa L.length oc).ownBlock = some b ∨ b = cb) w w5 d L j [(b9, ⟨q1, q2, q3⟩)]) := Lib.hid (by rw [hw5]; exact HD4.out.alloc ⟨q1, q2, q3⟩ b9 hb9)
      have HCP5 := Lib.hid (HCP4.out.of (hb45.block _ HCP4.out.lt))
      have HOV5 := Lib.hid (HOV4.out.below hb45)
      rw [← hw5, ← hb9, ← hcb]
      have hLj := HD5.out.len_le
      have hzl : ∀ b, ((Value.slice oa L.length oc).ownBlock = some b ∨ b = cb) → b < w5.heap.size := fun b hb => hb.elim (fun h => (HOV5.out.lt b h).2) (fun h => h ▸ HCP5.out.lt)
      have HZL := Lib.hid hzl
      have HAP : Hid (∀ b, (Value.slice oa L.length oc).ownBlock = some b → b ≠ b9) := Lib.hid (fun b hb e => by have h1 := (HOV4.out.lt b hb).2; omega)
      have x0 := HCP5.out.cell 0 _ rfl
      have x1 := HCP5.out.cell 1 _ rfl
      have x2 := HCP5.out.cell 2 _ rfl
      have x3 := HCP5.out.cell 3 _ rfl
      have x4 := HCP5.out.cell 4 _ rfl
      have x5 := HCP5.out.cell 5 _ rfl
      have x6 := HCP5.out.cell 6 _ rfl
      clear hw5 hb9 hb45 hcb HD4 HCP4 HOV4 HCP HOV HZ hzl u0 u1 u2 u3 u4 u5 u6
      by_cases hc1 : xc = 1
      · subst hc1
        have HSET := Lib.hid (HD5.out.set HZL.out (by omega) ⟨k1, k2, k3⟩ ⟨v1, v2, v3⟩ HXS.out)
        have HKS := Lib.hid (keys_set L ⟨k1, k2, k3⟩ ⟨v1, v2, v3⟩)
        cases hf : setF L ⟨k1, k2, k3⟩ ⟨v1, v2, v3⟩ with
        | false =>
          rw [hf] at HSET HKS
          clear hf
          go_wp2_with (go_at_call 44; (with_reducible refine HSET.out.mono ?_); rintro e w6 ⟨rfl, h, hsz, hzz⟩; have HD6 := Lib.hid h; have HOV6 := Lib.hid (HOV5.out.of (fun g hg => hzz g (.inl hg))); clear h hzz hsz)
          go_roundw
          case rel => exact ⟨j + 1, _, by omega, by go_num, Lib.hid ⟨(HD6.out.sub (fun p hp => by cases hp)).zone (fun b hb => .inl (.inl hb)), by rw [HKS.out]; exact HOV6.out⟩⟩
          case measure => simp [intOf]; omega
        | true =>
          rw [hf] at HSET HKS
          clear hf
          go_upto_region 14 with (go_at_call 44; (with_reducible refine HSET.out.mono ?_); rintro e w6 ⟨rfl, h, hsz, hzz⟩; have HD6 := Lib.hid h; have HOV6 := Lib.hid (HOV5.out.of (fun g hg => hzz g (.inl hg))); clear h hzz hsz)
          obtain ⟨va, w7, r7, hd7, ho7, _⟩ := (HD6.out.sub (B' := []) (fun p hp => by cases hp)).append_val (Y := fun _ => False) HOV6.out (fun b hb => .inl hb) (fun b hb => hb.elim) (fun p hp => by cases hp) ⟨q1, q2, q3⟩ (by rw [keysOf_len]; omega)
          have R7 := Lib.hid r7
          have HD7 := Lib.hid (hd7.zone (Y := fun b => va.ownBlock = some b) (fun b hb => .inl (.inl hb)))
          have HO7 := Lib.hid ho7
          have hbx := HD6.out.box (b := b9) (v := ⟨q1, q2, q3⟩) (by simp)
          have y0 := hbx.cell 0 _ rfl
          have y1 := hbx.cell 1 _ rfl
          have y2 := hbx.cell 2 _ rfl
          clear r7 hd7 ho7 hbx x0 x1 x2 x3 x4 x5 x6
          go_wp2_with (at_builtin; refine RG.wpList_append_run (v := .slice oa L.length oc) (v2 := .slice (some ⟨w6.heap.size, 0, none⟩) 1 1) rfl _ _ 55 55 rfl rfl rfl R7.out ?_; try simp only [Act.put, List.setIfInBounds_toArray, List.set_cons_zero, List.set_cons_succ])
          go_roundw
          case rel => exact ⟨j + 1, _, by omega, by go_num, Lib.hid ⟨HD7.out, by rw [HKS.out, if_pos trivial, ← HKV.out]; exact HO7.out⟩⟩
          case measure => simp [intOf]; omega
      · have hc1' : (xc == 1) = false := by simp [hc1]
        by_cases hc4 : xc = 4
        · subst hc4
          have HDRP := Lib.hid (HD5.out.drop HZL.out ⟨k1, k2, k3⟩ HXS.out)
          have hb9l : b9 < w5.heap.size := (HD5.out.box (b := b9) (v := ⟨q1, q2, q3⟩) (by simp)).lt
          cases hf : hasK L ⟨k1, k2, k3⟩ with
          | false =>
            rw [hf, if_neg (by decide)] at HDRP
            clear hf hc1
            go_wp2_with (go_at_call 45; (with_reducible refine HDRP.out.mono ?_); rintro e w6 ⟨rfl, h, hsz, hzz⟩; have HD6 := Lib.hid h; have HOV6 := Lib.hid (HOV5.out.of (fun g hg => hzz g (.inl hg))); clear h hzz hsz)
            go_roundw
            case rel => exact ⟨j + 1, _, by omega, by go_num, Lib.hid ⟨((HD6.out.sub (fun p hp => by cases hp)).mono (by omega)).zone (fun b hb => .inl (.inl hb)), HOV6.out⟩⟩
            case measure => simp [intOf]; omega
          | true =>
            have hke := has_good hf
            rw [hf, if_pos rfl, ← HKV.out] at HDRP
            rw [hke] at *
            have hap : ∀ b, (Value.slice oa L.length oc).ownBlock = some b → b ≠ b9 := HAP.out
            clear hf hc1 hke
            go_wp2_with (go_at_call 45; (with_reducible refine HDRP.out.mono ?_); rintro e w6 ⟨rfl, h, hsz, hzz⟩; have HD6 := Lib.hid h; have HOV6 := Lib.hid (HOV5.out.of (fun g hg => hzz g (.inl hg))); clear h hzz hsz)
            have hcap := HOV6.out.form
            obtain ⟨_, _, hce, hcap1, hcap2⟩ := hcap
            have hcap1' : L.length ≤ oc := by rw [(Value.slice.inj hce).2.2]; rw [keysOf_len] at hcap1; exact hcap1
            have hcap2' : oc ≤ 9223372036854775807 := by rw [(Value.slice.inj hce).2.2]; exact hcap2
            clear hce hcap1 hcap2 x0 x1 x2 x3 x4 x5 x6
            go_loopw [13, 77] (fun rv ii wr => ∃ q : Nat, q ≤ L.length ∧ ii = .int .i64 q ∧ Hid (Dct (fun b => rv.ownBlock = some b ∨ (Value.slice oa L.length oc).ownBlock = some b) w wr d (dropA L ⟨q1, q2, q3⟩) j [(b9, ⟨q1, q2, q3⟩)] ∧ OwnV wr w.heap.size rv (((keysOf L).take q).filter (fun y => decide (y ≠ ⟨q1, q2, q3⟩))) ∧ OwnV wr w.heap.size (.slice oa L.length oc) (keysOf L) ∧ rv.ownBlock ≠ some b9 ∧ ∀ b, rv.ownBlock = some b → (Value.slice oa L.length oc).ownBlock ≠ some b)) (fun _ ii _ => L.length - (intOf ii).toNat)
            case atStart => exact ⟨0, Nat.zero_le _, rfl, Lib.hid ⟨HD6.out.zone (fun b hb => .inl (hb.elim (fun h => by cases h) (fun h => .inl h))), OwnV.nil _ _, HOV6.out, (fun h => by cases h), (fun b h => by cases h)⟩⟩
            case round =>
              obtain ⟨q, hq, rfl, hre⟩ := hrel
              by_cases hlt2 : q < L.length
              · obtain ⟨y, hy⟩ : ∃ y, (keysOf L)[q]? = some y := ⟨_, List.getElem?_eq_getElem (by rw [keysOf_len]; exact hlt2)⟩
                obtain ⟨g, cap, hge, hcell⟩ := hre.out.2.2.1.cell hy
                have hoa : oa = some ⟨g, 0, none⟩ := (Value.slice.inj hge).1
                subst hoa
                have HFT := Lib.hid (filter_take (k := ⟨q1, q2, q3⟩) hy)
                have z0 := hcell 0 _ (by decide) rfl
                have z1 := hcell 1 _ (by decide) rfl
                have z2 := hcell 2 _ (by decide) rfl
                rw [Nat.add_zero] at z0
                have hq0 : (0 : Int) ≤ (q : Int) := by omega
                have hq1 : (q : Int) < (L.length : Int) := by omega
                obtain ⟨ra, rc, hrv, _⟩ := hre.out.2.1.form
                subst hrv
                have HRE := Lib.hid hre.out
                obtain ⟨bY, hbY⟩ : ∃ b, b = wr.heap.size := ⟨_, rfl⟩
                obtain ⟨w8, hw8⟩ : ∃ w8, w8 = wr.alloc (.cells #[.int .i64 y.k, .int .i64 y.n, .string y.s] 57) := ⟨_, rfl⟩
                have hb8 : Below wr.heap.size wr w8 := by rw [hw8]; exact (Below.refl _ _).alloc (Nat.le_refl _) _
                have HD8 := Lib.hid (hre.out.1.alloc y bY hbY)
                rw [← hw8] at HD8
                have HRV8 := Lib.hid (hre.out.2.1.below hb8)
                have HOV8 := Lib.hid (hre.out.2.2.1.below hb8)
                have HW8 := Lib.hid hw8
                have HBY := Lib.hid hbY
                obtain ⟨y1, y2, y3⟩ := y
                have hlen : ((((keysOf L).take q).filter (fun y => decide (y ≠ ⟨q1, q2, q3⟩))).length) ≤ 600 := by
                  have h1 := List.length_filter_le (fun y => decide (y ≠ ⟨q1, q2, q3⟩)) ((keysOf L).take q)
                  have h2 : ((keysOf L).take q).length ≤ q := by rw [List.length_take]; omega
                  omega
                have hn9 : (Value.slice ra (((keysOf L).take q).filter (fun y => decide (y ≠ ⟨q1, q2, q3⟩))).length rc).ownBlock ≠ some b9 := hre.out.2.2.2.1
                have hnov : ∀ b, (Value.slice ra (((keysOf L).take q).filter (fun y => decide (y ≠ ⟨q1, q2, q3⟩))).length rc).ownBlock = some b → (Value.slice (some ⟨g, 0, none⟩) L.length oc).ownBlock ≠ some b := hre.out.2.2.2.2
                have HN9 := Lib.hid hn9
                have HNOV := Lib.hid hnov
                have HLEN := Lib.hid hlen
                have HWR := Lib.hid hb8.size
                have hbxn := HD8.out.box (b := bY) (v := ⟨y1, y2, y3⟩) (by simp)
                have n0 := hbxn.cell 0 _ rfl
                have n1 := hbxn.cell 1 _ rfl
                have n2' := hbxn.cell 2 _ rfl
                have hbx9 := HD8.out.box (b := b9) (v := ⟨q1, q2, q3⟩) (by simp)
                have m0 := hbx9.cell 0 _ rfl
                have m1 := hbx9.cell 1 _ rfl
                have m2 := hbx9.cell 2 _ rfl
                clear hbxn hbx9 hw8 hbY hge hcell hre hlen hn9 hnov hy hb8
                have HOVC := Lib.hid (HD8.out.bel.size)
                generalize (((keysOf L).take q).filter (fun y => decide (y ≠ ⟨q1, q2, q3⟩))) = rl at *
                go_upto_region 20 with (fail)
                rw [← HW8.out, ← HBY.out]
                by_cases hyk : (⟨y1, y2, y3⟩ : Val) = ⟨q1, q2, q3⟩
                · rw [if_pos hyk, List.append_nil] at HFT
                  cases hyk
                  go_wp2_with fail
                  go_roundw
                  case rel => exact ⟨q + 1, by omega, by go_num, Lib.hid ⟨HD8.out.sub (fun p hp => by simp only [List.mem_singleton] at hp; rw [hp]; simp), by rw [HFT.out]; exact HRV8.out, HOV8.out, HN9.out, HNOV.out⟩⟩
                  case measure => simp [intOf]; omega
                · rw [if_neg hyk] at HFT
                  have h3 := val_ne hyk
                  clear hyk
                  obtain ⟨va, w9, r9, hd9, ho9, hyy, hat⟩ := (HD8.out.sub (B' := [(b9, ⟨q1, q2, q3⟩)]) (fun p hp => by simp only [List.mem_singleton] at hp; rw [hp]; simp)).append_val (Y := fun b => (Value.slice (some ⟨g, 0, none⟩) L.length oc).ownBlock = some b) HRV8.out (fun b hb => .inl hb) (fun b hb => ⟨.inr hb, fun h => HNOV.out b h hb, (HOV8.out.lt b hb).2⟩) (fun p hp => by simp only [List.mem_singleton] at hp; rw [hp]; exact HN9.out) ⟨y1, y2, y3⟩ (by have := HLEN.out; omega)
                  have R9 := Lib.hid r9
                  have HD9 := Lib.hid hd9
                  have HO9 := Lib.hid ho9
                  have HOV9 := Lib.hid (HOV8.out.of hyy)
                  have HA9 := Lib.hid hat
                  have HB9L : Hid (b9 < w8.heap.size) := Lib.hid (HD8.out.box (b := b9) (v := ⟨q1, q2, q3⟩) (by simp)).lt
                  clear r9 hd9 ho9 hyy hat
                  dsimp only at h3
                  rcases h3 with h3 | ⟨rfl, h3 | ⟨rfl, h3⟩⟩
                  all_goals
                    go_wp2_with (at_builtin; refine RG.wpList_append_run (v := .slice ra rl.length rc) (v2 := .slice (some ⟨w8.heap.size, 0, none⟩) 1 1) rfl _ _ 55 55 rfl rfl rfl R9.out ?_; try simp only [Act.put, List.setIfInBounds_toArray, List.set_cons_zero, List.set_cons_succ])
                    go_roundw
                    case rel => exact ⟨q + 1, by omega, by go_num, Lib.hid ⟨HD9.out, by rw [HFT.out]; exact HO9.out, HOV9.out, (fun e => (HA9.out b9 e).elim HN9.out (fun h => by have := HB9L.out; omega)), (fun b hb e => (HA9.out b hb).elim (fun h => HNOV.out b h e) (fun h => by have := (HOV8.out.lt b e).2; omega))⟩⟩
                    case measure => simp [intOf]; omega
              · obtain hqq : q = L.length := by omega
                subst hqq
                have HRE := Lib.hid hre.out
                have HKD := Lib.hid (keys_drop L ⟨q1, q2, q3⟩)
                go_wp2_with fail
                go_roundw
                case rel => exact ⟨j + 1, _, by omega, by go_num, Lib.hid ⟨((HRE.out.1.sub (fun p hp => by cases hp)).mono (by omega)).zone (fun b hb => .inl (.inl hb)), by rw [HKD.out]; have h1 := HRE.out.2.1; rw [List.take_of_length_le (by rw [keysOf_len]; exact Nat.le_refl _)] at h1; exact h1⟩⟩
                case measure => simp [intOf]; omega
        · have hc4' : (xc == 4) = false := by simp [hc4]
          clear hc1 hc4
          go_wp2_with fail
          go_roundw
          case rel => exact ⟨j + 1, _, by omega, by go_num, Lib.hid ⟨((HD5.out.sub (fun p hp => by cases hp)).mono (by omega)).zone (fun b hb => .inl (.inl hb)), HOV5.out⟩⟩
          case measure => simp [intOf]; omega
    · obtain rfl : n2 = j := by omega
      obtain ⟨oa, oc, hov, hoc1, hoc2⟩ := hre.out.2.form
      rw [keysOf_len] at hov hoc1
      subst hov
      have hkl := hre.out.1.len_le
      have HD4 := Lib.hid hre.out.1
      have HO4 := Lib.hid hre.out.2
      have HLN := Lib.hid (hre.out.1.len (by omega))
      clear hre
      go_wp2_with (go_at_call 46; (with_reducible refine HLN.out.mono ?_); rintro e w4 ⟨rfl, hb⟩; have HD5 := Lib.hid (HD4.out.below hb); have HO5 := Lib.hid (HO4.out.below hb); clear hb)
      clear HD4 HO4 HLN
      go_loopw [16, 98] (fun wv ii wr => ∃ q : Nat, q ≤ L.length ∧ ii = .int .i64 q ∧ Hid (Dct (fun b => wv.ownBlock = some b ∨ (Value.slice oa L.length oc).ownBlock = some b) w wr d L n2 [] ∧ OwnV wr w.heap.size wv (wantOf (L.take q)) ∧ OwnV wr w.heap.size (.slice oa L.length oc) (keysOf L) ∧ ∀ b, wv.ownBlock = some b → (Value.slice oa L.length oc).ownBlock ≠ some b)) (fun _ ii _ => L.length - (intOf ii).toNat)
      case atStart => exact ⟨0, Nat.zero_le _, rfl, Lib.hid ⟨HD5.out.zone (fun b hb => .inl (hb.elim (fun h => by cases h) (fun h => h))), OwnV.nil _ _, HO5.out, (fun b h => by cases h)⟩⟩
      case round =>
        obtain ⟨q, hq, rfl, hre⟩ := hrel
        by_cases hlt2 : q < L.length
        · obtain ⟨p, hp⟩ : ∃ p, L[q]? = some p := ⟨_, List.getElem?_eq_getElem hlt2⟩
          have hy : (keysOf L)[q]? = some p.1 := by unfold keysOf; rw [List.getElem?_map, hp]; rfl
          obtain ⟨g, cap, hge, hcell⟩ := hre.out.2.2.1.cell hy
          have hoa : oa = some ⟨g, 0, none⟩ := (Value.slice.inj hge).1
          subst hoa
          have HWT := Lib.hid (wantOf_take hp)
          have hpm : p ∈ L := List.mem_of_getElem? hp
          have hkok := hre.out.1.keysOK
          have hget := getV_mem hkok hpm
          have hps := (hkok.2 p hpm).2.2
          have z0 := hcell 0 _ (by decide) rfl
          have z1 := hcell 1 _ (by decide) rfl
          have z2 := hcell 2 _ (by decide) rfl
          rw [Nat.add_zero] at z0
          have hq0 : (0 : Int) ≤ (q : Int) := by omega
          have hq1 : (q : Int) < (L.length : Int) := by omega
          obtain ⟨ra, rc, hrv, _⟩ := hre.out.2.1.form
          subst hrv
          obtain ⟨bY, hbY⟩ : ∃ b, b = wr.heap.size := ⟨_, rfl⟩
          obtain ⟨⟨y1, y2, y3⟩, ⟨v1, v2, v3⟩⟩ := p
          obtain ⟨w8, hw8⟩ : ∃ w8, w8 = wr.alloc (.cells #[.int .i64 y1, .int .i64 y2, .string y3] 57) := ⟨_, rfl⟩
          have hb8 : Below wr.heap.size wr w8 := by rw [hw8]; exact (Below.refl _ _).alloc (Nat.le_refl _) _
          have HD8 := Lib.hid (hre.out.1.alloc ⟨y1, y2, y3⟩ bY hbY)
          dsimp only at HD8
          rw [← hw8] at HD8
          have HRV8 := Lib.hid (hre.out.2.1.below hb8)
          have HOV8 := Lib.hid (hre.out.2.2.1.below hb8)
          have HW8 := Lib.hid hw8
          have HBY := Lib.hid hbY
          have HGET := Lib.hid (HD8.out.get ⟨y1, y2, y3⟩ hps)
          dsimp only at hget
          rw [hget] at HGET
          have HGET : Hid (Calls Try.prog 47 #[.pointer (some ⟨d, 0, none⟩), .agg #[.int .i64 y1, .int .i64 y2, .string y3]] w8 fun e w' => e = .returned (.agg #[.int .i64 v1, .int .i64 v2, .string v3]) ∧ Below w8.heap.size w8 w') := HGET
          have hfd : ∀ W : World, (Instr.field 57 (.agg #[.int .i64 v1, .int .i64 v2, .string v3]) 0).run Try.prog W = .ok (.int .i64 v1) W := fun _ => by kernel_rfl
          have hlen : (wantOf (L.take q)).length ≤ 600 := by
            unfold wantOf
            rw [List.length_map]
            have h1 := List.length_filter_le (fun p : Val × Val => decide (p.2.k ≠ 0)) (L.take q)
            have h2 : (L.take q).length ≤ q := by rw [List.length_take]; omega
            omega
          have hnov : ∀ b, (Value.slice ra (wantOf (L.take q)).length rc).ownBlock = some b → (Value.slice (some ⟨g, 0, none⟩) L.length oc).ownBlock ≠ some b := hre.out.2.2.2
          have HNOV := Lib.hid hnov
          have HLEN := Lib.hid hlen
          have hbxn := HD8.out.box (b := bY) (v := ⟨y1, y2, y3⟩) (by simp)
          have n0 := hbxn.cell 0 _ rfl
          have n1 := hbxn.cell 1 _ rfl
          have n2' := hbxn.cell 2 _ rfl
          clear hbxn hw8 hbY hge hcell hre hlen hnov hy hb8 hp hpm hkok hget hps
          dsimp only at HWT
          generalize wantOf (L.take q) = rl at *
          go_upto_region 31 with (fail)
          rw [← HW8.out, ← HBY.out]
          by_cases hv0 : v1 = 0
          · rw [if_pos hv0, List.append_nil] at HWT
            subst hv0
            go_wp2_with (go_at_call 47; (with_reducible refine HGET.out.mono ?_); rintro e w9 ⟨rfl, hb⟩; have HD9 := Lib.hid (HD8.out.below hb); have HRV9 := Lib.hid (HRV8.out.below hb); have HOV9 := Lib.hid (HOV8.out.below hb); clear hb)
            go_roundw
            case rel => exact ⟨q + 1, by omega, by go_num, Lib.hid ⟨HD9.out.sub (fun p hp => by cases hp), by rw [HWT.out]; exact HRV9.out, HOV9.out, HNOV.out⟩⟩
            case measure => simp [intOf]; omega
          · rw [if_neg hv0] at HWT
            have hv0' : (v1 != 0) = true := by simp [hv0]
            go_upto_region 32 with (go_at_call 47; (with_reducible refine HGET.out.mono ?_); rintro e w9 ⟨rfl, hb⟩; have HD9 := Lib.hid (HD8.out.below hb); have HRV9 := Lib.hid (HRV8.out.below hb); have HOV9 := Lib.hid (HOV8.out.below hb); clear hb; have hbxn := HD9.out.box (b := bY) (v := ⟨y1, y2, y3⟩) (by simp); have s0 := hbxn.cell 0 _ rfl; have s1 := hbxn.cell 1 _ rfl; have s2 := hbxn.cell 2 _ rfl; clear hbxn)
            obtain ⟨va, w10, r9, hd9, ho9, hyy, hat⟩ := (HD9.out.sub (B' := []) (fun p hp => by cases hp)).append_val (Y := fun b => (Value.slice (some ⟨g, 0, none⟩) L.length oc).ownBlock = some b) HRV9.out (fun b hb => .inl hb) (fun b hb => ⟨.inr hb, fun h => HNOV.out b h hb, (HOV9.out.lt b hb).2⟩) (fun p hp => by cases hp) ⟨y1, y2, y3⟩ (by have := HLEN.out; omega)
            have R9 := Lib.hid r9
            have HD10 := Lib.hid hd9
            have HO9 := Lib.hid ho9
            have HOV10 := Lib.hid (HOV9.out.of hyy)
            have HA9 := Lib.hid hat
            clear r9 hd9 ho9 hyy hat
            go_wp2_with (at_builtin; refine RG.wpList_append_run (v := .slice ra rl.length rc) (v2 := .slice (some ⟨w9.heap.size, 0, none⟩) 1 1) rfl _ _ 55 55 rfl rfl rfl R9.out ?_; try simp only [Act.put, List.setIfInBounds_toArray, List.set_cons_zero, List.set_cons_succ])
            go_roundw
            case rel => exact ⟨q + 1, by omega, by go_num, Lib.hid ⟨HD10.out, by rw [HWT.out]; exact HO9.out, HOV10.out, (fun b hb e => (HA9.out b hb).elim (fun h => HNOV.out b h e) (fun h => by have := (HOV9.out.lt b e).2; omega))⟩⟩
            case measure => simp [intOf]; omega
        · obtain hqq : q = L.length := by omega
          subst hqq
          have h1 := hre.out.2.1
          rw [List.take_length] at h1
          obtain ⟨wa, wc, hwv, hwc1, hwc2⟩ := h1.form
          rw [wantOf_len] at hwv hwc1
          subst hwv
          have HD5 := Lib.hid hre.out.1
          have HWV := Lib.hid h1
          have HLV := Lib.hid hre.out.1.live
          have HKOK := Lib.hid hre.out.1.keysOK
          clear hre h1
          go_upto_region 36 with (go_at_call 48; (with_reducible refine HLV.out.mono ?_); rintro e w5 ⟨rfl, rfl⟩)
          obtain ⟨b19, hb19⟩ : ∃ b, b = wr.heap.size := ⟨_, rfl⟩
          obtain ⟨w6, hw6⟩ : ∃ w6, w6 = wr.alloc (.cells #[.int .i64 0, .int .i64 0, .string ⟨#[]⟩] 57) := ⟨_, rfl⟩
          have hb6 : Below wr.heap.size wr w6 := by rw [hw6]; exact (Below.refl _ _).alloc (Nat.le_refl _) _
          have HD6 : Hid (Dct (fun b => (Value.slice wa (liveL L) wc).ownBlock = some b) w w6 d L n2 [(b19, Val.nil)]) := Lib.hid (by rw [hw6]; exact (HD5.out.alloc Val.nil b19 hb19).zone (fun b hb => .inl (.inl hb)))
          have HWV6 := Lib.hid (HWV.out.below hb6)
          have HB19 : Hid (w.heap.size ≤ b19) := Lib.hid (by rw [hb19]; exact HD5.out.bel.size)
          have HW6 := Lib.hid hw6
          have HB19E := Lib.hid hb19
          have HLL := Lib.hid (wantOf_len L)
          have HAPW : Hid (∀ b, (Value.slice wa (liveL L) wc).ownBlock = some b → b ≠ b19) := Lib.hid (fun b hb e => by have h1 := (HWV.out.lt b hb).2; omega)
          clear hw6 hb19 hb6 HD5 HWV HLV
          have hlv600 : liveL L ≤ 600 := by have h1 : liveL L ≤ L.length := List.countP_le_length; omega
          obtain ⟨m, hm⟩ : ∃ m, m = liveL L := ⟨_, rfl⟩
          rw [← hm] at HD6 HWV6 HLL HAPW hlv600 hwc1 ⊢
          clear hm
          cases cl with
          | true =>
            go_wp2_with fail
            rw [← HW6.out, ← HB19E.out]
            clear HW6 HB19E
            go_loopw [120] (fun ii wr => ∃ (q : Nat) (A B : Pairs) (x : Val), q ≤ m ∧ ii = .int .i64 q ∧ Hid (L = A ++ B ∧ Stands A x ∧ wantOf B = (wantOf L).drop q ∧ Dct (fun b => (Value.slice wa m wc).ownBlock = some b) w wr d (anew Val.nil A ++ B) (n2 + q) [(b19, x)] ∧ OwnV wr w.heap.size (.slice wa m wc) (wantOf L))) (fun ii _ => m - (intOf ii).toNat)
            case atStart => exact ⟨0, [], L, Val.nil, Nat.zero_le _, rfl, Lib.hid ⟨rfl, .inl ⟨rfl, rfl⟩, rfl, HD6.out, HWV6.out⟩⟩
            case round =>
              obtain ⟨q, A, B, x, hq, rfl, hre⟩ := hrel
              obtain ⟨hAB, hst, hwB, hD, hOV⟩ := hre.out
              clear hre
              have hkAB : KeysOK (A ++ B) := by rw [← hAB]; exact HKOK.out
              have hxs := stands_size hkAB hst
              have hnx := next_stands (nv := Val.nil) hkAB hst
              by_cases hlt3 : q < m
              · obtain ⟨y, hy⟩ : ∃ y, (wantOf L)[q]? = some y := ⟨_, List.getElem?_eq_getElem (by rw [HLL.out]; exact hlt3)⟩
                have hdrop : wantOf B = y :: (wantOf L).drop (q + 1) := by
                  obtain ⟨h1, h2⟩ := List.getElem?_eq_some_iff.1 hy
                  rw [hwB, List.drop_eq_getElem_cons h1, h2]
                obtain ⟨B1, v, B2, rfl, hd1, hv0, hwB2⟩ := want_split hdrop
                rw [first_at hd1 hv0] at hnx
                obtain ⟨hset, hgetv⟩ := set_stands (nv := Val.nil) hkAB hd1 hv0 rfl
                obtain ⟨g, cap, hge, hcell⟩ := hOV.cell hy
                have hwa : wa = some ⟨g, 0, none⟩ := (Value.slice.inj hge).1
                subst hwa
                have z0 := hcell 0 _ (by decide) rfl
                have z1 := hcell 1 _ (by decide) rfl
                have z2 := hcell 2 _ (by decide) rfl
                rw [Nat.add_zero] at z0
                have hq0 : (0 : Int) ≤ (q : Int) := by omega
                have hq1 : (q : Int) < (m : Int) := by omega
                have hys : y.s.size ≤ maxLen := (hkAB.2 (y, v) (by simp)).2.2
                have HNEW : Hid (L = (A ++ (B1 ++ [(y, v)])) ++ B2 ∧ Stands (A ++ (B1 ++ [(y, v)])) y ∧ wantOf B2 = (wantOf L).drop (q + 1)) := Lib.hid ⟨by rw [hAB]; simp, .inr ⟨A ++ B1, v, by simp⟩, hwB2⟩
                have HSETE := Lib.hid hset
                have HYS := Lib.hid hys
                obtain ⟨bT, hbT⟩ : ∃ b, b = wr.heap.size := ⟨_, rfl⟩
                obtain ⟨y1, y2, y3⟩ := y
                obtain ⟨v1, v2, v3⟩ := v
                obtain ⟨x1, x2, x3⟩ := x
                have hv1 : (v1 == 0) = false := by simpa using hv0
                obtain ⟨w8, hw8⟩ : ∃ w8, w8 = wr.alloc (.cells #[.int .i64 y1, .int .i64 y2, .string y3] 57) := ⟨_, rfl⟩
                have hb8 : Below wr.heap.size wr w8 := by rw [hw8]; exact (Below.refl _ _).alloc (Nat.le_refl _) _
                have HD8 := Lib.hid (hD.alloc ⟨y1, y2, y3⟩ bT hbT)
                dsimp only at HD8
                rw [← hw8] at HD8
                have HOV8 := Lib.hid (hOV.below hb8)
                have HNX := Lib.hid (HD8.out.nextTo ⟨x1, x2, x3⟩ hxs ⟨y1, y2, y3⟩ ⟨v1, v2, v3⟩ 0 hnx)
                have HGETV := Lib.hid hgetv
                have HW8 := Lib.hid hw8
                have HBT := Lib.hid hbT
                have hbx := HD8.out.box (b := b19) (v := ⟨x1, x2, x3⟩) (by simp)
                have m0 := hbx.cell 0 _ rfl
                have m1 := hbx.cell 1 _ rfl
                have m2 := hbx.cell 2 _ rfl
                clear hbx hw8 hbT hb8 hge hcell hy hdrop hd1 hv0 hwB2 hset hgetv hnx hwB hst hAB hkAB hxs hys hD hOV
                go_upto_region 40 with (fail)
                rw [← HW8.out, ← HBT.out]
                go_upto_region 41 with (go_at_call 49; (with_reducible refine HNX.out.mono ?_); rintro e w9 ⟨rfl, hb⟩; have HD9 := Lib.hid (HD8.out.below hb); have HOV9 := Lib.hid (HOV8.out.below hb); clear hb)
                obtain ⟨bx, hbx⟩ : ∃ b, b = w9.heap.size := ⟨_, rfl⟩
                obtain ⟨w10, hw10⟩ : ∃ w10, w10 = (w9.alloc (.cells #[.int .i64 y1, .int .i64 y2, .string y3] 57)).alloc (.cells #[.int .i64 v1, .int .i64 v2, .string v3] 57) := ⟨_, rfl⟩
                have hb10 : Below w9.heap.size w9 w10 := by rw [hw10]; exact ((Below.refl _ _).alloc (Nat.le_refl _) _).alloc (by simp) _
                have HD10 := Lib.hid ((HD9.out.alloc ⟨y1, y2, y3⟩ bx hbx).alloc ⟨v1, v2, v3⟩ (bx + 1) (by rw [hbx]; simp))
                dsimp only at HD10
                rw [← hw10] at HD10
                have HOV10 := Lib.hid (HOV9.out.below hb10)
                have hbxl : b19 < bx := by rw [hbx]; exact (HD9.out.box (b := b19) (v := ⟨x1, x2, x3⟩) (by simp)).lt
                rw [← hw10, ← hbx]
                have HGX := Lib.hid (fun (W : World) (h : Below w10.heap.size w10 W) => (HD10.out.below h).get ⟨y1, y2, y3⟩ HYS.out)
                rw [HGETV.out] at HGX
                have p0 : ∀ W, Below w10.heap.size w10 W → W.cell? ⟨bx, 0, none⟩ = some (.int .i64 y1) := fun W hW => ((HD10.out.below hW).box (b := bx) (v := ⟨y1, y2, y3⟩) (by simp)).cell 0 _ rfl
                have p1 : ∀ W, Below w10.heap.size w10 W → W.cell? ⟨bx, 1, none⟩ = some (.int .i64 y2) := fun W hW => ((HD10.out.below hW).box (b := bx) (v := ⟨y1, y2, y3⟩) (by simp)).cell 1 _ rfl
                have p2 : ∀ W, Below w10.heap.size w10 W → W.cell? ⟨bx, 2, none⟩ = some (.string y3) := fun W hW => ((HD10.out.below hW).box (b := bx) (v := ⟨y1, y2, y3⟩) (by simp)).cell 2 _ rfl
                have q0 : ∀ W, Below w10.heap.size w10 W → W.cell? ⟨bx + 1, 0, none⟩ = some (.int .i64 v1) := fun W hW => ((HD10.out.below hW).box (b := bx + 1) (v := ⟨v1, v2, v3⟩) (by simp)).cell 0 _ rfl
                have q1 : ∀ W, Below w10.heap.size w10 W → W.cell? ⟨bx + 1, 1, none⟩ = some (.int .i64 v2) := fun W hW => ((HD10.out.below hW).box (b := bx + 1) (v := ⟨v1, v2, v3⟩) (by simp)).cell 1 _ rfl
                have q2 : ∀ W, Below w10.heap.size w10 W → W.cell? ⟨bx + 1, 2, none⟩ = some (.string v3) := fun W hW => ((HD10.out.below hW).box (b := bx + 1) (v := ⟨v1, v2, v3⟩) (by simp)).cell 2 _ rfl
                have s0 : ∀ W, Below w10.heap.size w10 W → W.cell? ⟨bT, 0, none⟩ = some (.int .i64 y1) := fun W hW => ((HD10.out.below hW).box (b := bT) (v := ⟨y1, y2, y3⟩) (by simp)).cell 0 _ rfl
                have s1 : ∀ W, Below w10.heap.size w10 W → W.cell? ⟨bT, 1, none⟩ = some (.int .i64 y2) := fun W hW => ((HD10.out.below hW).box (b := bT) (v := ⟨y1, y2, y3⟩) (by simp)).cell 1 _ rfl
                have s2 : ∀ W, Below w10.heap.size w10 W → W.cell? ⟨bT, 2, none⟩ = some (.string y3) := fun W hW => ((HD10.out.below hW).box (b := bT) (v := ⟨y1, y2, y3⟩) (by simp)).cell 2 _ rfl
                clear hw10 hbx hb10 z0 z1 z2 m0 m1 m2
                refine QB.region w10 (by kernel_rfl) (by kernel_rfl) (Below.refl _ _) ?_
                refine QB.step (v := ?_) (by rfl) ?_ ?_
                rotate_left
                · (intro W hW; (try dsimp only at hW); go_simp; try with_reducible rfl)
                try simp only [Act.put, List.setIfInBounds_toArray, List.set_cons_zero, List.set_cons_succ]
                refine QB.step (v := ?_) (by rfl) ?_ ?_
                rotate_left
                · (intro W hW; (try dsimp only at hW); go_simp; try with_reducible rfl)
                try simp only [Act.put, List.setIfInBounds_toArray, List.set_cons_zero, List.set_cons_succ]
                refine QB.step (v := ?_) (by rfl) ?_ ?_
                rotate_left
                · (intro W hW; (try dsimp only at hW); go_simp; try with_reducible rfl)
                try simp only [Act.put, List.setIfInBounds_toArray, List.set_cons_zero, List.set_cons_succ]
                refine QB.step (v := ?_) (by rfl) ?_ ?_
                rotate_left
                · (intro W hW; (try dsimp only at hW); go_simp; try with_reducible rfl)
                try simp only [Act.put, List.setIfInBounds_toArray, List.set_cons_zero, List.set_cons_succ]
                refine QB.step (v := ?_) (by rfl) ?_ ?_
                rotate_left
                · (intro W hW; (try dsimp only at hW); go_simp; try with_reducible rfl)
                try simp only [Act.put, List.setIfInBounds_toArray, List.set_cons_zero, List.set_cons_succ]
                refine QB.step (v := ?_) (by rfl) ?_ ?_
                rotate_left
                · (intro W hW; (try dsimp only at hW); go_simp; try with_reducible rfl)
                try simp only [Act.put, List.setIfInBounds_toArray, List.set_cons_zero, List.set_cons_succ]
                refine QB.step (v := ?_) (by rfl) ?_ ?_
                rotate_left
                · (intro W hW; (try dsimp only at hW); go_simp; try with_reducible rfl)
                try simp only [Act.put, List.setIfInBounds_toArray, List.set_cons_zero, List.set_cons_succ]
                refine QB.step (v := ?_) (by rfl) ?_ ?_
                rotate_left
                · (intro W hW; (try dsimp only at hW); go_simp; try with_reducible rfl)
                try simp only [Act.put, List.setIfInBounds_toArray, List.set_cons_zero, List.set_cons_succ]
                refine QB.step (v := ?_) (by rfl) ?_ ?_
                rotate_left
                · (intro W hW; (try dsimp only at hW); go_simp; try with_reducible rfl)
                try simp only [Act.put, List.setIfInBounds_toArray, List.set_cons_zero, List.set_cons_succ]
                refine QB.step (v := ?_) (by rfl) ?_ ?_
                rotate_left
                · (intro W hW; (try dsimp only at hW); go_simp; try with_reducible rfl)
                try simp only [Act.put, List.setIfInBounds_toArray, List.set_cons_zero, List.set_cons_succ]
                refine QB.step (v := ?_) (by rfl) ?_ ?_
                rotate_left
                · (intro W hW; (try dsimp only at hW); go_simp; try with_reducible rfl)
                try simp only [Act.put, List.setIfInBounds_toArray, List.set_cons_zero, List.set_cons_succ]
                refine QB.step (v := ?_) (by rfl) ?_ ?_
                rotate_left
                · (intro W hW; (try dsimp only at hW); go_simp; with_reducible refine (HGX.out _ hW).mono ?_; rintro e w'' ⟨rfl, hb⟩; refine ⟨?_, hW.trans (hb.mono hW.size)⟩; with_reducible rfl)
                try simp only [Act.put, List.setIfInBounds_toArray, List.set_cons_zero, List.set_cons_succ]
                refine QB.step (v := ?_) (by rfl) ?_ ?_
                rotate_left
                · (intro W hW; (try dsimp only at hW); go_simp; try with_reducible rfl)
                try simp only [Act.put, List.setIfInBounds_toArray, List.set_cons_zero, List.set_cons_succ]
                refine QB.step (v := ?_) (by rfl) ?_ ?_
                rotate_left
                · (intro W hW; (try dsimp only at hW); go_simp; try with_reducible rfl)
                try simp only [Act.put, List.setIfInBounds_toArray, List.set_cons_zero, List.set_cons_succ]
                refine QB.step (v := ?_) (by rfl) ?_ ?_
                rotate_left
                · (intro W hW; (try dsimp only at hW); go_simp; try with_reducible rfl)
                try simp only [Act.put, List.setIfInBounds_toArray, List.set_cons_zero, List.set_cons_succ]
                refine QB.step (v := ?_) (by rfl) ?_ ?_
                rotate_left
                · (intro W hW; (try dsimp only at hW); go_simp; try with_reducible rfl)
                try simp only [Act.put, List.setIfInBounds_toArray, List.set_cons_zero, List.set_cons_succ]
                refine QB.step (v := ?_) (by rfl) ?_ ?_
                rotate_left
                · (intro W hW; (try dsimp only at hW); go_simp; try with_reducible rfl)
                try simp only [Act.put, List.setIfInBounds_toArray, List.set_cons_zero, List.set_cons_succ]
                refine QB.step (v := ?_) (by rfl) ?_ ?_
                rotate_left
                · (intro W hW; (try dsimp only at hW); go_simp; try with_reducible rfl)
                try simp only [Act.put, List.setIfInBounds_toArray, List.set_cons_zero, List.set_cons_succ]
                refine QB.step (v := ?_) (by rfl) ?_ ?_
                rotate_left
                · (intro W hW; (try dsimp only at hW); go_simp; try with_reducible rfl)
                try simp only [Act.put, List.setIfInBounds_toArray, List.set_cons_zero, List.set_cons_succ]
                refine wpQuiet_nil ?_
                intro w11 hb11
                have HD11 := Lib.hid (HD10.out.below hb11)
                have HOV11 := Lib.hid (HOV10.out.below hb11)
                clear p0 p1 p2 q0 q1 q2 s0 s1 s2
                have HSET := Lib.hid (HD11.out.set (fun b hb => (HOV11.out.lt b hb).2) (by omega) ⟨y1, y2, y3⟩ Val.nil HYS.out)
                rw [HSETE.out] at HSET
                have hbk := HD11.out.box (b := bx) (v := ⟨y1, y2, y3⟩) (by simp)
                have n0 := hbk.cell 0 _ rfl
                have n1 := hbk.cell 1 _ rfl
                have n2' := hbk.cell 2 _ rfl
                clear hbk
                go_upto_region 46 with (go_at_call 44; (with_reducible refine HSET.out.mono ?_); rintro e w12 ⟨rfl, h, hsz, hzz⟩; have HD12 := Lib.hid h; have HOV12 := Lib.hid (HOV11.out.of (fun g hg => hzz g hg)); clear h hzz hsz)
                have hbk2 := HD12.out.box (b := bx) (v := ⟨y1, y2, y3⟩) (by simp)
                have g0 := hbk2.cell 0 _ rfl
                have g1 := hbk2.cell 1 _ rfl
                have g2 := hbk2.cell 2 _ rfl
                have hba := HD12.out.box (b := b19) (v := ⟨x1, x2, x3⟩) (by simp)
                have t0 := hba.cell 0 _ rfl
                have t1 := hba.cell 1 _ rfl
                have t2 := hba.cell 2 _ rfl
                have f0 := hba.frozen 0
                have f1 := hba.frozen 1
                have f2 := hba.frozen 2
                clear hbk2 hba n0 n1 n2'
                go_wp2
                go_roundw
                case rel => exact ⟨q + 1, A ++ (B1 ++ [(⟨y1, y2, y3⟩, ⟨v1, v2, v3⟩)]), B2, ⟨y1, y2, y3⟩, by omega, by go_num, Lib.hid ⟨HNEW.out.1, HNEW.out.2.1, HNEW.out.2.2, HD12.out.store (b := b19) (v := ⟨x1, x2, x3⟩) (by simp) ⟨y1, y2, y3⟩ HB19.out (fun p hp => by simp only [List.mem_singleton] at hp; rw [hp]; exact .inl rfl), HOV12.out.of (fun b hb => (((Below.heap_setCell _ _ _ _ (HAPW.out b hb)).trans (Below.heap_setCell _ _ _ _ (HAPW.out b hb))).trans (Below.heap_setCell _ _ _ _ (HAPW.out b hb))))⟩⟩
                case measure => simp [intOf]; omega
              · obtain hqm : q = m := by omega
                subst hqm
                have hB0 : ∀ p ∈ B, p.2.k = 0 := want_nil (by rw [hwB, ← HLL.out, List.drop_length])
                rw [first_dead hB0] at hnx
                obtain ⟨x1, x2, x3⟩ := x
                have hq1 : ¬ (q : Int) < (q : Int) := by omega
                have HNX := Lib.hid (hD.nextTo ⟨x1, x2, x3⟩ hxs Val.nil Val.nil 0 hnx)
                have hlen := anew_len Val.nil A B
                rw [← hAB] at hlen
                have HLN := Lib.hid (fun (W : World) (h : Dct (fun b => (Value.slice wa q wc).ownBlock = some b) w W d (anew Val.nil A ++ B) (n2 + q) [(b19, ⟨x1, x2, x3⟩)]) => h.len (by omega))
                rw [hlen] at HLN
                have HLV := Lib.hid (fun (W : World) (h : Dct (fun b => (Value.slice wa q wc).ownBlock = some b) w W d (anew Val.nil A ++ B) (n2 + q) [(b19, ⟨x1, x2, x3⟩)]) => h.live)
                rw [live_anew hB0] at HLV
                have HDE := Lib.hid hD
                have hbx := hD.box (b := b19) (v := ⟨x1, x2, x3⟩) (by simp)
                have m0 := hbx.cell 0 _ rfl
                have m1 := hbx.cell 1 _ rfl
                have m2 := hbx.cell 2 _ rfl
                clear hbx hD hOV hst hwB hAB hkAB hnx hxs hB0 hlen
                go_wp2_with (first
                  | (go_at_call 49; (with_reducible refine HNX.out.mono ?_); rintro e w8 ⟨rfl, hb⟩; have HD8 := Lib.hid (HDE.out.below (hb.alloc hb.size (.cells #[.int .i64 0, .int .i64 0, .string Val.e] 57))); have HD9 := Lib.hid (HD8.out.below ((Below.refl _ _).alloc (Nat.le_refl _) (.cells #[.int .i64 0, .int .i64 0, .string Val.e] 57))); clear hb)
                  | (go_at_call 48; (with_reducible refine (HLV.out _ HD9.out).mono ?_); rintro e w10 ⟨rfl, rfl⟩)
                  | (go_at_call 46; (with_reducible refine (HLN.out _ HD9.out).mono ?_); rintro e w11 ⟨rfl, hb⟩; have HD11 := Lib.hid (HD9.out.below hb); clear hb))
                go_ret
                exact ⟨rfl, HD11.out.bel⟩
          | false =>
            go_wp2_with fail
            rw [← HW6.out, ← HB19E.out]
            clear HW6 HB19E
            go_loopw [120] (fun ii wr => ∃ (q : Nat) (A B : Pairs) (x : Val), q ≤ m ∧ ii = .int .i64 q ∧ Hid (L = A ++ B ∧ Stands A x ∧ wantOf B = (wantOf L).drop q ∧ Dct (fun b => (Value.slice wa m wc).ownBlock = some b) w wr d (anew ⟨2, 7, Val.e⟩ A ++ B) (n2 + q) [(b19, x)] ∧ OwnV wr w.heap.size (.slice wa m wc) (wantOf L))) (fun ii _ => m - (intOf ii).toNat)
            case atStart => exact ⟨0, [], L, Val.nil, Nat.zero_le _, rfl, Lib.hid ⟨rfl, .inl ⟨rfl, rfl⟩, rfl, HD6.out, HWV6.out⟩⟩
            case round =>
              obtain ⟨q, A, B, x, hq, rfl, hre⟩ := hrel
              obtain ⟨hAB, hst, hwB, hD, hOV⟩ := hre.out
              clear hre
              have hkAB : KeysOK (A ++ B) := by rw [← hAB]; exact HKOK.out
              have hxs := stands_size hkAB hst
              have hnx := next_stands (nv := ⟨2, 7, Val.e⟩) hkAB hst
              by_cases hlt3 : q < m
              · obtain ⟨y, hy⟩ : ∃ y, (wantOf L)[q]? = some y := ⟨_, List.getElem?_eq_getElem (by rw [HLL.out]; exact hlt3)⟩
                have hdrop : wantOf B = y :: (wantOf L).drop (q + 1) := by
                  obtain ⟨h1, h2⟩ := List.getElem?_eq_some_iff.1 hy
                  rw [hwB, List.drop_eq_getElem_cons h1, h2]
                obtain ⟨B1, v, B2, rfl, hd1, hv0, hwB2⟩ := want_split hdrop
                rw [first_at hd1 hv0] at hnx
                obtain ⟨hset, hgetv⟩ := set_stands (nv := ⟨2, 7, Val.e⟩) hkAB hd1 hv0 rfl
                obtain ⟨g, cap, hge, hcell⟩ := hOV.cell hy
                have hwa : wa = some ⟨g, 0, none⟩ := (Value.slice.inj hge).1
                subst hwa
                have z0 := hcell 0 _ (by decide) rfl
                have z1 := hcell 1 _ (by decide) rfl
                have z2 := hcell 2 _ (by decide) rfl
                rw [Nat.add_zero] at z0
                have hq0 : (0 : Int) ≤ (q : Int) := by omega
                have hq1 : (q : Int) < (m : Int) := by omega
                have hys : y.s.size ≤ maxLen := (hkAB.2 (y, v) (by simp)).2.2
                have HNEW : Hid (L = (A ++ (B1 ++ [(y, v)])) ++ B2 ∧ Stands (A ++ (B1 ++ [(y, v)])) y ∧ wantOf B2 = (wantOf L).drop (q + 1)) := Lib.hid ⟨by rw [hAB]; simp, .inr ⟨A ++ B1, v, by simp⟩, hwB2⟩
                have HSETE := Lib.hid hset
                have HYS := Lib.hid hys
                obtain ⟨bT, hbT⟩ : ∃ b, b = wr.heap.size := ⟨_, rfl⟩
                obtain ⟨y1, y2, y3⟩ := y
                obtain ⟨v1, v2, v3⟩ := v
                obtain ⟨x1, x2, x3⟩ := x
                have hv1 : (v1 == 0) = false := by simpa using hv0
                obtain ⟨w8, hw8⟩ : ∃ w8, w8 = wr.alloc (.cells #[.int .i64 y1, .int .i64 y2, .string y3] 57) := ⟨_, rfl⟩
                have hb8 : Below wr.heap.size wr w8 := by rw [hw8]; exact (Below.refl _ _).alloc (Nat.le_refl _) _
                have HD8 := Lib.hid (hD.alloc ⟨y1, y2, y3⟩ bT hbT)
                dsimp only at HD8
                rw [← hw8] at HD8
                have HOV8 := Lib.hid (hOV.below hb8)
                have HNX := Lib.hid (HD8.out.nextTo ⟨x1, x2, x3⟩ hxs ⟨y1, y2, y3⟩ ⟨v1, v2, v3⟩ 0 hnx)
                have HGETV := Lib.hid hgetv
                have HW8 := Lib.hid hw8
                have HBT := Lib.hid hbT
                have hbx := HD8.out.box (b := b19) (v := ⟨x1, x2, x3⟩) (by simp)
                have m0 := hbx.cell 0 _ rfl
                have m1 := hbx.cell 1 _ rfl
                have m2 := hbx.cell 2 _ rfl
                clear hbx hw8 hbT hb8 hge hcell hy hdrop hd1 hv0 hwB2 hset hgetv hnx hwB hst hAB hkAB hxs hys hD hOV
                go_upto_region 40 with (fail)
                rw [← HW8.out, ← HBT.out]
                go_upto_region 41 with (go_at_call 49; (with_reducible refine HNX.out.mono ?_); rintro e w9 ⟨rfl, hb⟩; have HD9 := Lib.hid (HD8.out.below hb); have HOV9 := Lib.hid (HOV8.out.below hb); clear hb)
                obtain ⟨bx, hbx⟩ : ∃ b, b = w9.heap.size := ⟨_, rfl⟩
                obtain ⟨w10, hw10⟩ : ∃ w10, w10 = (w9.alloc (.cells #[.int .i64 y1, .int .i64 y2, .string y3] 57)).alloc (.cells #[.int .i64 v1, .int .i64 v2, .string v3] 57) := ⟨_, rfl⟩
                have hb10 : Below w9.heap.size w9 w10 := by rw [hw10]; exact ((Below.refl _ _).alloc (Nat.le_refl _) _).alloc (by simp) _
                have HD10 := Lib.hid ((HD9.out.alloc ⟨y1, y2, y3⟩ bx hbx).alloc ⟨v1, v2, v3⟩ (bx + 1) (by rw [hbx]; simp))
                dsimp only at HD10
                rw [← hw10] at HD10
                have HOV10 := Lib.hid (HOV9.out.below hb10)
                have hbxl : b19 < bx := by rw [hbx]; exact (HD9.out.box (b := b19) (v := ⟨x1, x2, x3⟩) (by simp)).lt
                rw [← hw10, ← hbx]
                have HGX := Lib.hid (fun (W : World) (h : Below w10.heap.size w10 W) => (HD10.out.below h).get ⟨y1, y2, y3⟩ HYS.out)
                rw [HGETV.out] at HGX
                have p0 : ∀ W, Below w10.heap.size w10 W → W.cell? ⟨bx, 0, none⟩ = some (.int .i64 y1) := fun W hW => ((HD10.out.below hW).box (b := bx) (v := ⟨y1, y2, y3⟩) (by simp)).cell 0 _ rfl
                have p1 : ∀ W, Below w10.heap.size w10 W → W.cell? ⟨bx, 1, none⟩ = some (.int .i64 y2) := fun W hW => ((HD10.out.below hW).box (b := bx) (v := ⟨y1, y2, y3⟩) (by simp)).cell 1 _ rfl
                have p2 : ∀ W, Below w10.heap.size w10 W → W.cell? ⟨bx, 2, none⟩ = some (.string y3) := fun W hW => ((HD10.out.below hW).box (b := bx) (v := ⟨y1, y2, y3⟩) (by simp)).cell 2 _ rfl
                have q0 : ∀ W, Below w10.heap.size w10 W → W.cell? ⟨bx + 1, 0, none⟩ = some (.int .i64 v1) := fun W hW => ((HD10.out.below hW).box (b := bx + 1) (v := ⟨v1, v2, v3⟩) (by simp)).cell 0 _ rfl
                have q1 : ∀ W, Below w10.heap.size w10 W → W.cell? ⟨bx + 1, 1, none⟩ = some (.int .i64 v2) := fun W hW => ((HD10.out.below hW).box (b := bx + 1) (v := ⟨v1, v2, v3⟩) (by simp)).cell 1 _ rfl
                have q2 : ∀ W, Below w10.heap.size w10 W → W.cell? ⟨bx + 1, 2, none⟩ = some (.string v3) := fun W hW => ((HD10.out.below hW).box (b := bx + 1) (v := ⟨v1, v2, v3⟩) (by simp)).cell 2 _ rfl
                have s0 : ∀ W, Below w10.heap.size w10 W → W.cell? ⟨bT, 0, none⟩ = some (.int .i64 y1) := fun W hW => ((HD10.out.below hW).box (b := bT) (v := ⟨y1, y2, y3⟩) (by simp)).cell 0 _ rfl
                have s1 : ∀ W, Below w10.heap.size w10 W → W.cell? ⟨bT, 1, none⟩ = some (.int .i64 y2) := fun W hW => ((HD10.out.below hW).box (b := bT) (v := ⟨y1, y2, y3⟩) (by simp)).cell 1 _ rfl
                have s2 : ∀ W, Below w10.heap.size w10 W → W.cell? ⟨bT, 2, none⟩ = some (.string y3) := fun W hW => ((HD10.out.below hW).box (b := bT) (v := ⟨y1, y2, y3⟩) (by simp)).cell 2 _ rfl
                clear hw10 hbx hb10 z0 z1 z2 m0 m1 m2
                refine QB.region w10 (by kernel_rfl) (by kernel_rfl) (Below.refl _ _) ?_
                refine QB.step (v := ?_) (by rfl) ?_ ?_
                rotate_left
                · (intro W hW; (try dsimp only at hW); go_simp; try with_reducible rfl)
                try simp only [Act.put, List.setIfInBounds_toArray, List.set_cons_zero, List.set_cons_succ]
                refine QB.step (v := ?_) (by rfl) ?_ ?_
                rotate_left
                · (intro W hW; (try dsimp only at hW); go_simp; try with_reducible rfl)
                try simp only [Act.put, List.setIfInBounds_toArray, List.set_cons_zero, List.set_cons_succ]
                refine QB.step (v := ?_) (by rfl) ?_ ?_
                rotate_left
                · (intro W hW; (try dsimp only at hW); go_simp; try with_reducible rfl)
                try simp only [Act.put, List.setIfInBounds_toArray, List.set_cons_zero, List.set_cons_succ]
                refine QB.step (v := ?_) (by rfl) ?_ ?_
                rotate_left
                · (intro W hW; (try dsimp only at hW); go_simp; try with_reducible rfl)
                try simp only [Act.put, List.setIfInBounds_toArray, List.set_cons_zero, List.set_cons_succ]
                refine QB.step (v := ?_) (by rfl) ?_ ?_
                rotate_left
                · (intro W hW; (try dsimp only at hW); go_simp; try with_reducible rfl)
                try simp only [Act.put, List.setIfInBounds_toArray, List.set_cons_zero, List.set_cons_succ]
                refine QB.step (v := ?_) (by rfl) ?_ ?_
                rotate_left
                · (intro W hW; (try dsimp only at hW); go_simp; try with_reducible rfl)
                try simp only [Act.put, List.setIfInBounds_toArray, List.set_cons_zero, List.set_cons_succ]
                refine QB.step (v := ?_) (by rfl) ?_ ?_
                rotate_left
                · (intro W hW; (try dsimp only at hW); go_simp; try with_reducible rfl)
                try simp only [Act.put, List.setIfInBounds_toArray, List.set_cons_zero, List.set_cons_succ]
                refine QB.step (v := ?_) (by rfl) ?_ ?_
                rotate_left
                · (intro W hW; (try dsimp only at hW); go_simp; try with_reducible rfl)
                try simp only [Act.put, List.setIfInBounds_toArray, List.set_cons_zero, List.set_cons_succ]
                refine QB.step (v := ?_) (by rfl) ?_ ?_
                rotate_left
                · (intro W hW; (try dsimp only at hW); go_simp; try with_reducible rfl)
                try simp only [Act.put, List.setIfInBounds_toArray, List.set_cons_zero, List.set_cons_succ]
                refine QB.step (v := ?_) (by rfl) ?_ ?_
                rotate_left
                · (intro W hW; (try dsimp only at hW); go_simp; try with_reducible rfl)
                try simp only [Act.put, List.setIfInBounds_toArray, List.set_cons_zero, List.set_cons_succ]
                refine QB.step (v := ?_) (by rfl) ?_ ?_
                rotate_left
                · (intro W hW; (try dsimp only at hW); go_simp; try with_reducible rfl)
                try simp only [Act.put, List.setIfInBounds_toArray, List.set_cons_zero, List.set_cons_succ]
                refine QB.step (v := ?_) (by rfl) ?_ ?_
                rotate_left
                · (intro W hW; (try dsimp only at hW); go_simp; with_reducible refine (HGX.out _ hW).mono ?_; rintro e w'' ⟨rfl, hb⟩; refine ⟨?_, hW.trans (hb.mono hW.size)⟩; with_reducible rfl)
                try simp only [Act.put, List.setIfInBounds_toArray, List.set_cons_zero, List.set_cons_succ]
                refine QB.step (v := ?_) (by rfl) ?_ ?_
                rotate_left
                · (intro W hW; (try dsimp only at hW); go_simp; try with_reducible rfl)
                try simp only [Act.put, List.setIfInBounds_toArray, List.set_cons_zero, List.set_cons_succ]
                refine QB.step (v := ?_) (by rfl) ?_ ?_
                rotate_left
                · (intro W hW; (try dsimp only at hW); go_simp; try with_reducible rfl)
                try simp only [Act.put, List.setIfInBounds_toArray, List.set_cons_zero, List.set_cons_succ]
                refine QB.step (v := ?_) (by rfl) ?_ ?_
                rotate_left
                · (intro W hW; (try dsimp only at hW); go_simp; try with_reducible rfl)
                try simp only [Act.put, List.setIfInBounds_toArray, List.set_cons_zero, List.set_cons_succ]
                refine QB.step (v := ?_) (by rfl) ?_ ?_
                rotate_left
                · (intro W hW; (try dsimp only at hW); go_simp; try with_reducible rfl)
                try simp only [Act.put, List.setIfInBounds_toArray, List.set_cons_zero, List.set_cons_succ]
                refine QB.step (v := ?_) (by rfl) ?_ ?_
                rotate_left
                · (intro W hW; (try dsimp only at hW); go_simp; try with_reducible rfl)
                try simp only [Act.put, List.setIfInBounds_toArray, List.set_cons_zero, List.set_cons_succ]
                refine QB.step (v := ?_) (by rfl) ?_ ?_
                rotate_left
                · (intro W hW; (try dsimp only at hW); go_simp; try with_reducible rfl)
                try simp only [Act.put, List.setIfInBounds_toArray, List.set_cons_zero, List.set_cons_succ]
                refine QB.step (v := ?_) (by rfl) ?_ ?_
                rotate_left
                · (intro W hW; (try dsimp only at hW); go_simp; try with_reducible rfl)
                try simp only [Act.put, List.setIfInBounds_toArray, List.set_cons_zero, List.set_cons_succ]
                refine wpQuiet_nil ?_
                intro w11 hb11
                have HD11 := Lib.hid (HD10.out.below hb11)
                have HOV11 := Lib.hid (HOV10.out.below hb11)
                clear p0 p1 p2 q0 q1 q2 s0 s1 s2
                have HSET := Lib.hid (HD11.out.set (fun b hb => (HOV11.out.lt b hb).2) (by omega) ⟨y1, y2, y3⟩ ⟨2, 7, Val.e⟩ HYS.out)
                rw [HSETE.out] at HSET
                have hbk := HD11.out.box (b := bx) (v := ⟨y1, y2, y3⟩) (by simp)
                have n0 := hbk.cell 0 _ rfl
                have n1 := hbk.cell 1 _ rfl
                have n2' := hbk.cell 2 _ rfl
                clear hbk
                go_upto_region 45 with (fail)
                have hdr : Below w11.heap.size w11 ({ w11 with drawn := w11.drawn + 1 } : World) := ⟨rfl, rfl, rfl, Nat.le_refl _, fun _ _ => rfl⟩
                have HDY := Lib.hid (HD11.out.below hdr)
                have HOVY := Lib.hid (HOV11.out.below hdr)
                refine RG.region_F (fun W => Blk W bx 57 [.int .i64 y1, .int .i64 y2, .string y3]) 3 (by kernel_rfl) ?_
                clear hdr HSET n0 n1 n2'
                generalize ({ w11 with drawn := w11.drawn + 1 } : World) = wy at *
                have q0 : ∀ W, Blk W bx 57 [.int .i64 y1, .int .i64 y2, .string y3] → W.cell? ⟨bx, 0, none⟩ = some (.int .i64 y1) := fun W hW => hW.cell 0 _ rfl
                have q1 : ∀ W, Blk W bx 57 [.int .i64 y1, .int .i64 y2, .string y3] → W.cell? ⟨bx, 1, none⟩ = some (.int .i64 y2) := fun W hW => hW.cell 1 _ rfl
                have q2 : ∀ W, Blk W bx 57 [.int .i64 y1, .int .i64 y2, .string y3] → W.cell? ⟨bx, 2, none⟩ = some (.string y3) := fun W hW => hW.cell 2 _ rfl
                have hS0 : Blk wy bx 57 [.int .i64 y1, .int .i64 y2, .string y3] := HDY.out.box (b := bx) (v := ⟨y1, y2, y3⟩) (by simp)
                refine RG.takeF 0 (oi := ⟨some 155, _, _, _, _, _⟩) (v := ?_) rfl (by kernel_rfl) (by kernel_rfl) (by kernel_rfl) (by kernel_rfl) (fun _ _ _ h => h) (Or.inl ⟨by rfl, ?hysf0⟩) hS0 ?restsf0
                case hysf0 => (intro W hW; (try dsimp only at hW); go_simp; try with_reducible rfl)
                simp only [Act.put, List.setIfInBounds_toArray, List.set_cons_zero, List.set_cons_succ]
                refine RG.takeF 1 (oi := ⟨some 156, _, _, _, _, _⟩) (v := ?_) rfl (by kernel_rfl) (by kernel_rfl) (by kernel_rfl) (by kernel_rfl) (fun _ _ _ h => h) (Or.inl ⟨by rfl, ?hysf1⟩) hS0 ?restsf1
                case hysf1 => (intro W hW; (try dsimp only at hW); go_simp; try with_reducible rfl)
                simp only [Act.put, List.setIfInBounds_toArray, List.set_cons_zero, List.set_cons_succ]
                refine RG.oneF 2 (by kernel_rfl) (by decide) ?_
                refine RG.wpOp_plain rfl rfl fun K hK => ?_
                go_simp
                with_reducible refine (HI.out _ _).mono ?_
                rintro e wz ⟨rfl, hb⟩
                have HDZ := Lib.hid (HDY.out.below hb)
                have HOVZ := Lib.hid (HOVY.out.below hb)
                refine hK _ _ ⟨HDZ.out.box (b := bx) (v := ⟨y1, y2, y3⟩) (by simp), ?_⟩
                clear hK K hb
                try simp only [Act.put, List.setIfInBounds_toArray, List.set_cons_zero, List.set_cons_succ]
                have HSET := Lib.hid (HDZ.out.set (fun b hb => (HOVZ.out.lt b hb).2) (by omega) ⟨y1, y2, y3⟩ ⟨2, 7, Val.e⟩ HYS.out)
                rw [HSETE.out] at HSET
                refine RG.lastF (by kernel_rfl) (by kernel_rfl) ?_
                refine RG.wpOp_plain rfl rfl fun K hK => ?_
                go_simp
                with_reducible refine HSET.out.mono ?_
                rintro e w12 ⟨rfl, h, hsz, hzz⟩
                have HD12 := Lib.hid h
                have HOV12 := Lib.hid (HOVZ.out.of (fun g hg => hzz g hg))
                refine hK _ _ ?_
                clear hK K h hzz hsz
                try simp only [Act.put, List.setIfInBounds_toArray, List.set_cons_zero, List.set_cons_succ]
                clear q0 q1 q2 hS0
                have n0 := 0
                have n1 := 0
                have n2' := 0
                have hbk2 := HD12.out.box (b := bx) (v := ⟨y1, y2, y3⟩) (by simp)
                have g0 := hbk2.cell 0 _ rfl
                have g1 := hbk2.cell 1 _ rfl
                have g2 := hbk2.cell 2 _ rfl
                have hba := HD12.out.box (b := b19) (v := ⟨x1, x2, x3⟩) (by simp)
                have t0 := hba.cell 0 _ rfl
                have t1 := hba.cell 1 _ rfl
                have t2 := hba.cell 2 _ rfl
                have f0 := hba.frozen 0
                have f1 := hba.frozen 1
                have f2 := hba.frozen 2
                clear hbk2 hba n0 n1 n2'
                go_wp2
                go_roundw
                case rel => exact ⟨q + 1, A ++ (B1 ++ [(⟨y1, y2, y3⟩, ⟨v1, v2, v3⟩)]), B2, ⟨y1, y2, y3⟩, by omega, by go_num, Lib.hid ⟨HNEW.out.1, HNEW.out.2.1, HNEW.out.2.2, HD12.out.store (b := b19) (v := ⟨x1, x2, x3⟩) (by simp) ⟨y1, y2, y3⟩ HB19.out (fun p hp => by simp only [List.mem_singleton] at hp; rw [hp]; exact .inl rfl), HOV12.out.of (fun b hb => (((Below.heap_setCell _ _ _ _ (HAPW.out b hb)).trans (Below.heap_setCell _ _ _ _ (HAPW.out b hb))).trans (Below.heap_setCell _ _ _ _ (HAPW.out b hb))))⟩⟩
                case measure => simp [intOf]; omega
              · obtain hqm : q = m := by omega
                subst hqm
                have hB0 : ∀ p ∈ B, p.2.k = 0 := want_nil (by rw [hwB, ← HLL.out, List.drop_length])
                rw [first_dead hB0] at hnx
                obtain ⟨x1, x2, x3⟩ := x
                have hq1 : ¬ (q : Int) < (q : Int) := by omega
                have HNX := Lib.hid (hD.nextTo ⟨x1, x2, x3⟩ hxs Val.nil Val.nil 0 hnx)
                have hlen := anew_len ⟨2, 7, Val.e⟩ A B
                rw [← hAB] at hlen
                have HLN := Lib.hid (fun (W : World) (h : Dct (fun b => (Value.slice wa q wc).ownBlock = some b) w W d (anew ⟨2, 7, Val.e⟩ A ++ B) (n2 + q) [(b19, ⟨x1, x2, x3⟩)]) => h.len (by omega))
                rw [hlen] at HLN
                have HLV := Lib.hid (fun (W : World) (h : False) => (h.elim : Calls Try.prog 48 #[] W (fun e w' => e = .returned (.int .i64 0) ∧ W = w')))
                have HDE := Lib.hid hD
                have hbx := hD.box (b := b19) (v := ⟨x1, x2, x3⟩) (by simp)
                have m0 := hbx.cell 0 _ rfl
                have m1 := hbx.cell 1 _ rfl
                have m2 := hbx.cell 2 _ rfl
                clear hbx hD hOV hst hwB hAB hkAB hnx hxs hB0 hlen
                go_wp2_with (first
                  | (go_at_call 49; (with_reducible refine HNX.out.mono ?_); rintro e w8 ⟨rfl, hb⟩; have HD8 := Lib.hid (HDE.out.below (hb.alloc hb.size (.cells #[.int .i64 0, .int .i64 0, .string Val.e] 57))); have HD9 := Lib.hid (HD8.out.below ((Below.refl _ _).alloc (Nat.le_refl _) (.cells #[.int .i64 0, .int .i64 0, .string Val.e] 57))); clear hb)
                  | (go_at_call 48; (with_reducible refine (HLV.out _ HD9.out).mono ?_); rintro e w10 ⟨rfl, rfl⟩)
                  | (go_at_call 46; (with_reducible refine (HLN.out _ HD9.out).mono ?_); rintro e w11 ⟨rfl, hb⟩; have HD11 := Lib.hid (HD9.out.below hb); clear hb))
                go_ret
                exact ⟨rfl, HD11.out.bel⟩
end Go.Proofs.Ytmjfmfelbmbniaa
