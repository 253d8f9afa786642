/- The law ShapePlays: through any keys added to any shapes both trees answer alike. -/
import Derived.Test.YtmjfmfelbmbniaaShU
namespace Go.Proofs.Ytmjfmfelbmbniaa
open Go.RowKit Go.Maps HK ShM
set_option linter.unusedVariables false
set_option linter.unusedSimpArgs false
attribute [local go_sem ↓] run_max_two run_min_two
set_option maxHeartbeats 4000000 in
set_option maxRecDepth 20000 in
theorem plays_walk (deep fan : Int) (mv lv : Value) (ask : Int × ByteArray) (ms : List ByteArray) (l : List (Int × ByteArray)) (w : World) (hm : RdS w mv ms) (hms : ms.length ≤ 140737488355328) (hmz : ∀ s ∈ ms, s.size ≤ maxLen) (hl : RdT w lv l)
    (h24 : l.length * 24 ≤ 140737488351232) (hlz : ∀ x ∈ l, x.2.size ≤ 140737488355328) (haz : ask.2.size ≤ 140737488355328) :
    Calls Try.prog 5 #[.agg #[.int .i64 deep, .int .i64 fan, mv], lv, .agg #[.int .i64 ask.1, .string ask.2]] w fun e w' => e = .returned (.bool true) ∧ Below w.heap.size w w' := by
  have HM := Lib.hid hm; have HL := Lib.hid hl; have HMS := Lib.hid hms; have HMZ := Lib.hid hmz; have HLZ := Lib.hid hlz; have HAZ := Lib.hid haz; have H24 := Lib.hid h24
  obtain ⟨a1, c1, rfl, m1, m2, _⟩ := hm
  obtain ⟨a2, c2, rfl, q1, q2, q3, _⟩ := hl
  have hq2 : c2 ≤ 9223372036854775807 := q2
  clear hms hmz m1 m2 hlz haz h24 q2
  obtain ⟨ai, az⟩ := ask
  dsimp only at HAZ ⊢
  have hbl := (Blk.new w [.int .i64 deep, .int .i64 fan, .slice a1 ms.length c1] 24).alloc (.cells #[.int .i64 ai, .string az] 31)
  have hbs : Blk ((w.alloc (.cells #[.int .i64 deep, .int .i64 fan, .slice a1 ms.length c1] 24)).alloc (.cells #[.int .i64 ai, .string az] 31)) (w.heap.size + 1) 31 [.int .i64 ai, .string az] := by
    simpa using Blk.new (w.alloc (.cells #[.int .i64 deep, .int .i64 fan, .slice a1 ms.length c1] 24)) [.int .i64 ai, .string az] 31
  have hB1 : Below w.heap.size w ((w.alloc (.cells #[.int .i64 deep, .int .i64 fan, .slice a1 ms.length c1] 24)).alloc (.cells #[.int .i64 ai, .string az] 31)) := ((Below.refl _ _).alloc (Nat.le_refl _) _).alloc (by simp) _
  have HBL := Lib.hid hbl; have HBS := Lib.hid hbs; have HB1 := Lib.hid hB1
  clear hbl hB1 hbs
  go_enter Try.func5, Try.ntmps5
  go_wp2_with fail
  generalize (w.alloc (.cells #[.int .i64 deep, .int .i64 fan, .slice a1 ms.length c1] 24)).alloc (.cells #[.int .i64 ai, .string az] 31) = w1 at *
  obtain ⟨bs, hbsz⟩ : ∃ bs, bs = w.heap.size + 1 := ⟨_, rfl⟩
  rw [← hbsz] at HBS ⊢
  obtain ⟨bc, hbcz⟩ : ∃ bc, bc = w.heap.size := ⟨_, rfl⟩
  have EBC := Lib.hid hbcz
  rw [← hbcz] at HBL ⊢
  clear hbsz hbcz
  refine (alive_calls _).mono ?_
  rintro e w2 ⟨rfl, hb⟩
  have HBL2 := Lib.hid (HBL.out.of (hb.block _ HBL.out.lt)); have HBS2 := Lib.hid (HBS.out.of (hb.block _ HBS.out.lt))
  have HB2 := Lib.hid (HB1.out.trans (hb.mono HB1.out.size))
  clear hb
  go_upto_region 3 with (fail)
  have hm2 := Lib.hid (HM.out.below HB2.out (Nat.le_refl _))
  have hl2 := Lib.hid (HL.out.below HB2.out (Nat.le_refl _))
  refine wp_region_held (S := fun W => Below w2.heap.size w2 W) (by kernel_rfl) ?_
  have hS0 : Below w2.heap.size w2 ({ w2 with drawn := w2.drawn + 1 } : World) := ⟨rfl, rfl, rfl, Nat.le_refl _, fun _ _ => rfl⟩
  generalize ({ w2 with drawn := w2.drawn + 1 } : World) = w3 at hS0 ⊢
  have f0 : ∀ W, Below w2.heap.size w2 W → W.cell? ⟨bc, 0, none⟩ = some (.int .i64 deep) := fun W hW => (hW.cell HBL2.out.lt).trans (HBL2.out.cell 0 _ rfl)
  have f1 : ∀ W, Below w2.heap.size w2 W → W.cell? ⟨bc, 1, none⟩ = some (.int .i64 fan) := fun W hW => (hW.cell HBL2.out.lt).trans (HBL2.out.cell 1 _ rfl)
  have f2 : ∀ W, Below w2.heap.size w2 W → W.cell? ⟨bc, 2, none⟩ = some (.slice a1 ms.length c1) := fun W hW => (hW.cell HBL2.out.lt).trans (HBL2.out.cell 2 _ rfl)
  have f3 : ∀ W, Below w2.heap.size w2 W → W.cell? ⟨bs, 0, none⟩ = some (.int .i64 ai) := fun W hW => (hW.cell HBS2.out.lt).trans (HBS2.out.cell 0 _ rfl)
  have f4 : ∀ W, Below w2.heap.size w2 W → W.cell? ⟨bs, 1, none⟩ = some (.string az) := fun W hW => (hW.cell HBS2.out.lt).trans (HBS2.out.cell 1 _ rfl)
  refine wpAnyH_take (i := 0) (oi := ⟨some 24, _, _, _, _, _⟩) (v := ?_) rfl (by kernel_rfl) (by kernel_rfl) (by kernel_rfl) (fun _ _ _ h => h) (Or.inl ⟨by rfl, ?hy24⟩) hS0 ?rest24
  case hy24 => (intro W hW; (try dsimp only at hW); go_simp; try with_reducible rfl)
  try simp only [Act.put, List.setIfInBounds_toArray, List.set_cons_zero, List.set_cons_succ]
  refine wpAnyH_take (i := 1) (oi := ⟨some 25, _, _, _, _, _⟩) (v := ?_) rfl (by kernel_rfl) (by kernel_rfl) (by kernel_rfl) (fun _ _ _ h => h) (Or.inl ⟨by rfl, ?hy25⟩) hS0 ?rest25
  case hy25 => (intro W hW; (try dsimp only at hW); go_simp; try with_reducible rfl)
  try simp only [Act.put, List.setIfInBounds_toArray, List.set_cons_zero, List.set_cons_succ]
  refine wpAnyH_take (i := 3) (oi := ⟨some 27, _, _, _, _, _⟩) (v := ?_) rfl (by kernel_rfl) (by kernel_rfl) (by kernel_rfl) (fun _ _ _ h => h) (Or.inl ⟨by rfl, ?hy27⟩) hS0 ?rest27
  case hy27 => (intro W hW; (try dsimp only at hW); go_simp; try with_reducible rfl)
  try simp only [Act.put, List.setIfInBounds_toArray, List.set_cons_zero, List.set_cons_succ]
  refine RG.one (i := 2) (by kernel_rfl) ?_
  refine RG.wpOp_plain rfl rfl fun K hK => ?_
  go_simp
  have hS1 : Below w2.heap.size w2 (w3.alloc (.cells #[.int .i64 ai, .string az] 31)) := hS0.alloc hS0.size _
  refine hK _ _ ⟨hS1, ?_⟩
  clear hK K
  try simp only [Act.put, List.setIfInBounds_toArray, List.set_cons_zero, List.set_cons_succ]
  have oa : (w3.alloc (.cells #[.int .i64 ai, .string az] 31)).ownsRow w2.heap.size 31 2 (.slice (some ⟨w3.heap.size, 0, none⟩) 1 1) 1 [.int .i64 ai, .string az] := World.ownsRow_lit w3 #[.int .i64 ai, .string az] 1 hS0.size (by decide) rfl
  obtain ⟨v4, w4, r4, o4, g4⟩ := run_append_steps (w3.alloc (.cells #[.int .i64 ai, .string az] 31)) w2.heap.size w3.heap.size (ai, az) oa (by show az.size ≤ maxLen; have := HAZ.out; unfold maxLen; omega) _ l (hl2.out.below hS1 (Nat.le_refl _)) H24.out hS1.size
  refine RG.one (i := 4) (by kernel_rfl) ?_
  refine RG.wpOp_plain rfl rfl fun K hK => ?_
  refine RG.wp_append_run _ _ 25 25 rfl rfl rfl r4 ?_
  have hS4 : Below w2.heap.size w2 w4 := hS1.trans g4
  refine hK _ _ ⟨hS4, ?_⟩
  clear hK K
  try simp only [Act.put, List.setIfInBounds_toArray, List.set_cons_zero, List.set_cons_succ]
  have HGR := Lib.hid (great_calls deep fan _ _ ms ((ai, az) :: l) w4 (hm2.out.below hS4 (Nat.le_refl _)) HMS.out o4)
  refine RG.one (i := 5) (by kernel_rfl) ?_
  refine RG.wpOp_plain rfl rfl fun K hK => ?_
  go_simp
  refine HGR.out.mono ?_
  rintro e w5 ⟨g, rfl, hg, hb5⟩
  have hS5 : Below w2.heap.size w2 w5 := hS4.trans (hb5.mono hS4.size)
  refine hK _ _ ⟨hS5, ?_⟩
  clear hK K
  try simp only [Act.put, List.setIfInBounds_toArray, List.set_cons_zero, List.set_cons_succ]
  have HB5 := Lib.hid (HB2.out.trans (hS5.mono HB2.out.size))
  have HBL5 := Lib.hid (HBL2.out.of (hS5.block _ HBL2.out.lt)); have HBS5 := Lib.hid (HBS2.out.of (hS5.block _ HBS2.out.lt))
  have HG := Lib.hid hg
  clear f0 f1 f2 f3 f4 hS0 hS1 oa r4 o4 g4 hS4 HGR hg hb5 hS5 hm2 hl2
  refine wpAnyH_done (by kernel_rfl) ?_ _
  cases g with
  | true =>
    go_wp2
    go_ret
    exact ⟨rfl, HB5.out⟩
  | false =>
  have HK := Lib.hid (HG.out (by first | rfl | trivial)).2
  go_upto_region 5 with (fail)
  refine wp_region_held (S := fun W => Below w5.heap.size w5 W) (by kernel_rfl) ?_
  have hS0 : Below w5.heap.size w5 ({ w5 with drawn := w5.drawn + 1 } : World) := ⟨rfl, rfl, rfl, Nat.le_refl _, fun _ _ => rfl⟩
  generalize ({ w5 with drawn := w5.drawn + 1 } : World) = w6 at hS0 ⊢
  have f0 : ∀ W, Below w5.heap.size w5 W → W.cell? ⟨bc, 0, none⟩ = some (.int .i64 deep) := fun W hW => (hW.cell HBL5.out.lt).trans (HBL5.out.cell 0 _ rfl)
  have f1 : ∀ W, Below w5.heap.size w5 W → W.cell? ⟨bc, 1, none⟩ = some (.int .i64 fan) := fun W hW => (hW.cell HBL5.out.lt).trans (HBL5.out.cell 1 _ rfl)
  have f2 : ∀ W, Below w5.heap.size w5 W → W.cell? ⟨bc, 2, none⟩ = some (.slice a1 ms.length c1) := fun W hW => (hW.cell HBL5.out.lt).trans (HBL5.out.cell 2 _ rfl)
  refine wpAnyH_take (i := 0) (oi := ⟨some 30, _, _, _, _, _⟩) (v := ?_) rfl (by kernel_rfl) (by kernel_rfl) (by kernel_rfl) (fun _ _ _ h => h) (Or.inl ⟨by rfl, ?hy30⟩) hS0 ?rest30
  case hy30 => (intro W hW; (try dsimp only at hW); go_simp; try with_reducible rfl)
  try simp only [Act.put, List.setIfInBounds_toArray, List.set_cons_zero, List.set_cons_succ]
  refine wpAnyH_take (i := 2) (oi := ⟨some 32, _, _, _, _, _⟩) (v := ?_) rfl (by kernel_rfl) (by kernel_rfl) (by kernel_rfl) (fun _ _ _ h => h) (Or.inl ⟨by rfl, ?hy32⟩) hS0 ?rest32
  case hy32 => (intro W hW; (try dsimp only at hW); go_simp; try with_reducible rfl)
  try simp only [Act.put, List.setIfInBounds_toArray, List.set_cons_zero, List.set_cons_succ]
  refine wpAnyH_take (i := 3) (oi := ⟨some 33, _, _, _, _, _⟩) (v := ?_) rfl (by kernel_rfl) (by kernel_rfl) (by kernel_rfl) (fun _ _ _ h => h) (Or.inl ⟨by rfl, ?hy33⟩) hS0 ?rest33
  case hy33 => (intro W hW; (try dsimp only at hW); go_simp; try with_reducible rfl)
  try simp only [Act.put, List.setIfInBounds_toArray, List.set_cons_zero, List.set_cons_succ]
  refine wpAnyH_take (i := 4) (oi := ⟨some 34, _, _, _, _, _⟩) (v := ?_) rfl (by kernel_rfl) (by kernel_rfl) (by kernel_rfl) (fun _ _ _ h => h) (Or.inl ⟨by rfl, ?hy34⟩) hS0 ?rest34
  case hy34 => (intro W hW; (try dsimp only at hW); go_simp; try with_reducible rfl)
  try simp only [Act.put, List.setIfInBounds_toArray, List.set_cons_zero, List.set_cons_succ]
  refine wpAnyH_take (i := 5) (oi := ⟨some 35, _, _, _, _, _⟩) (v := ?_) rfl (by kernel_rfl) (by kernel_rfl) (by kernel_rfl) (fun _ _ _ h => h) (Or.inl ⟨by rfl, ?hy35⟩) hS0 ?rest35
  case hy35 => (intro W hW; (try dsimp only at hW); go_simp; try with_reducible rfl)
  try simp only [Act.put, List.setIfInBounds_toArray, List.set_cons_zero, List.set_cons_succ]
  refine wpAnyH_take (i := 6) (oi := ⟨some 36, _, _, _, _, _⟩) (v := ?_) rfl (by kernel_rfl) (by kernel_rfl) (by kernel_rfl) (fun _ _ _ h => h) (Or.inl ⟨by rfl, ?hy36⟩) hS0 ?rest36
  case hy36 => (intro W hW; (try dsimp only at hW); go_simp; try with_reducible rfl)
  try simp only [Act.put, List.setIfInBounds_toArray, List.set_cons_zero, List.set_cons_succ]
  refine wpAnyH_take (i := 7) (oi := ⟨some 37, _, _, _, _, _⟩) (v := ?_) rfl (by kernel_rfl) (by kernel_rfl) (by kernel_rfl) (fun _ _ _ h => h) (Or.inl ⟨by rfl, ?hy37⟩) hS0 ?rest37
  case hy37 => (intro W hW; (try dsimp only at hW); go_simp; try with_reducible rfl)
  try simp only [Act.put, List.setIfInBounds_toArray, List.set_cons_zero, List.set_cons_succ]
  have hm5 := HM.out.below HB5.out (Nat.le_refl _)
  obtain ⟨D, hD⟩ : ∃ D, D = min (max deep 0) 64 := ⟨_, rfl⟩
  obtain ⟨F, hF⟩ : ∃ F, F = min (max fan 0) 64 := ⟨_, rfl⟩
  have ED := Lib.hid hD; have EF := Lib.hid hF
  clear hD hF
  have HMD := Lib.hid (made_calls deep fan _ ms w6 (hm5.below hS0 (Nat.le_refl _)) HMZ.out HK.out)
  refine RG.one (i := 1) (by kernel_rfl) ?_
  refine RG.wpOp_plain rfl rfl fun K hK => ?_
  go_simp
  refine HMD.out.mono ?_
  rintro e w7 ⟨tb, B, rfl, t1, t2, t3⟩
  rw [← ED.out, ← EF.out] at t1
  have hS7 : Below w5.heap.size w5 w7 := hS0.trans (t3.mono hS0.size)
  refine hK _ _ ⟨hS7, ?_⟩
  clear hK K
  try simp only [Act.put, List.setIfInBounds_toArray, List.set_cons_zero, List.set_cons_succ]
  have HRN := Lib.hid (rnew_calls deep fan _ ms w7 (hm5.below hS7 (Nat.le_refl _)))
  refine RG.one (i := 8) (by kernel_rfl) ?_
  refine RG.wpOp_plain rfl rfl fun K hK => ?_
  go_simp
  refine HRN.out.mono ?_
  rintro e w8 ⟨rb, X, rfl, x1, x2, x3⟩
  rw [← ED.out, ← EF.out] at x1
  have hS8 : Below w5.heap.size w5 w8 := hS7.trans (x3.mono hS7.size)
  refine hK _ _ ⟨hS8, ?_⟩
  clear hK K
  try simp only [Act.put, List.setIfInBounds_toArray, List.set_cons_zero, List.set_cons_succ]
  have HBT : Hid (Both w6 w8 tb rb D F (ms.take 64) T0) := Lib.hid ⟨X, ((TB.x ⟨B, t1, t2, t3⟩).weak (fun b hb => .inr (x2 b hb))).below x3, x1, fun b hb => Nat.le_trans t3.size (x2 b hb)⟩
  refine RG.one (i := 9) (by kernel_rfl) ?_
  refine RG.wpOp_plain rfl rfl fun K hK => ?_
  go_simp
  refine hK _ _ ⟨hS8, ?_⟩
  clear hK K
  try simp only [Act.put, List.setIfInBounds_toArray, List.set_cons_zero, List.set_cons_succ]
  refine RG.one (i := 10) (by kernel_rfl) ?_
  refine RG.wpOp_plain rfl rfl fun K hK => ?_
  go_simp
  refine hK _ _ ⟨hS8, ?_⟩
  clear hK K
  try simp only [Act.put, List.setIfInBounds_toArray, List.set_cons_zero, List.set_cons_succ]
  have hB6 : Below w.heap.size w w6 := HB5.out.trans (hS0.mono HB5.out.size)
  have HB6 := Lib.hid hB6
  have HBS6 := Lib.hid (HBS5.out.of (hS0.block _ HBS5.out.lt))
  have hl6 := HL.out.below hB6 (Nat.le_refl _)
  obtain ⟨_, _, e2, _, _, _, hc2⟩ := hl6
  cases e2
  have HC2 := Lib.hid hc2
  clear f0 f1 f2 hS0 hm5 HMD t1 t2 t3 hS7 HRN x1 x2 x3 hS8 hB6 hc2
  refine wpAnyH_done (by kernel_rfl) ?_ _
  obtain ⟨n2, hn2⟩ : ∃ n, n = l.length := ⟨_, rfl⟩
  have E2 := Lib.hid hn2
  rw [← hn2] at q1 q3 ⊢
  clear hn2
  go_wp2_with fail
  go_loopw [41] (fun i wr => ∃ k : Nat, k ≤ n2 ∧ i = .int .i64 k ∧ Hid (Both w6 wr tb rb D F (ms.take 64) (play D F T0 (l.take k)))) (fun i _ => n2 - (intOf i).toNat)
  case atStart => exact ⟨0, Nat.zero_le _, rfl, HBT⟩
  case round =>
    obtain ⟨k, hk, rfl, hT⟩ := hrel
    by_cases hlt : k < n2
    · have hkl : k < l.length := by rw [← E2.out]; exact hlt
      obtain ⟨b, off, rfl, hx, hy, hz⟩ := HC2.out k l[k] (List.getElem?_eq_getElem _)
      have hx' := (hT.out.bel.cell (World.block_lt_of_cell? w6 _ hx)).trans hx
      have hy' := (hT.out.bel.cell (World.block_lt_of_cell? w6 _ hy)).trans hy
      have HPS := Lib.hid (play_snoc D F T0 l k hkl)
      clear hx hy
      generalize l[k] = x at *
      obtain ⟨T, hTT⟩ : ∃ T, T = play D F T0 (l.take k) := ⟨_, rfl⟩
      rw [← hTT] at hT HPS
      clear hTT
      obtain ⟨X, t1, r1, x1⟩ := hT.out
      obtain ⟨xi, xz⟩ := x
      dsimp only at hx' hy' hz HPS
      have hbox := Blk.new wr [.int .i64 xi, .string xz] 31
      have tA := (t1.weak (Y := fun b => X b ∨ b = wr.heap.size) (fun b hb => hb.imp id (fun e => by rw [e]; exact Nat.le_refl _))).alloc (.cells #[.int .i64 xi, .string xz] 31)
      have hbw : Below wr.heap.size wr (wr.alloc (.cells #[.int .i64 xi, .string xz] 31)) := (Below.refl _ _).alloc (Nat.le_refl _) _
      have rA := r1.below hbw
      have HAD := Lib.hid (tA.add (fun b hb => by rcases hb with hb | rfl; exact rA.lt b hb; exact hbox.lt) xi xz hz)
      have HRA := Lib.hid rA
      have HX1 := Lib.hid x1
      have HBX := Lib.hid hbox
      obtain ⟨⟨r, ok, T2⟩, hadd⟩ : ∃ o, o = addM D F T xi xz := ⟨_, rfl⟩
      have HADD := Lib.hid hadd
      rw [← hadd] at HAD HPS
      dsimp only at HAD HPS
      clear hadd t1 r1 x1 tA rA hbw hbox hz
      go_wp2_with (first
        | (go_at_call 28; (with_reducible refine HAD.out.mono ?_); rintro e w9 ⟨rfl, h1, h2, h3⟩; have HT9 := Lib.hid h1; have hbx9 := HBX.out.of (h3 _ (.inr rfl)); have y0 := hbx9.cell 0 _ rfl; have y1 := hbx9.cell 1 _ rfl; have hr9 := HRA.out.of h2 (fun b hb => h3 b (.inl hb)); have HRD := Lib.hid (radd_calls hr9 xi xz); rw [← HADD.out] at HRD; have HR9 := Lib.hid hr9; clear h1 h2 h3 hr9 hbx9)
        | (go_at_call 36; (with_reducible refine HRD.out.mono ?_); rintro e w10 ⟨rfl, ⟨X2, h1, h2, h3⟩⟩; have HT10 := Lib.hid ((HT9.out.weak (Y := X) (fun b hb => .inl (.inl hb))).chg h2 (fun b hb => HX1.out b hb) h3); have HR10 := Lib.hid h1; have HX2 : Hid (∀ b, X2 b → w6.heap.size ≤ b) := Lib.hid (fun b hb => by rcases h3 b hb with h | h; exact HX1.out b h; exact Nat.le_trans HT9.out.bel.size h); clear h1 h2 h3))
      obtain ⟨nv, sb, sc, pb, pc, kv, hin⟩ := HR10.out
      have c3 := hin.hd.cell 3 _ rfl
      have HLN := Lib.hid (fun (n : Nat) => Calls.quiet_of_same ((HT10.out.toTB.drewN n).len.mono fun _ _ h => ⟨h.1, h.2.symm⟩))
      have HBO : Hid (Both w6 w10 tb rb D F (ms.take 64) T2) := Lib.hid ⟨X2, HT10.out, HR10.out, HX2.out⟩
      clear hin HAD HRD HRA HX1 HBX HT9 HR9 HR10 HX2 HT10 y0 y1
      cases ok with
      | false =>
        go_quiet ((go_at_call 29; with_reducible exact HLN.out _))
        go_wp2
        go_roundw
        case rel => exact ⟨k + 1, by omega, by go_num, Lib.hid (by rw [HPS.out]; exact HBO.out.below (Below.drewN (Below.refl _ _) _))⟩
        case measure => simp [intOf]; omega
      | true =>
        go_quiet ((go_at_call 29; with_reducible exact HLN.out _))
        go_wp2
        go_roundw
        case rel => exact ⟨k + 1, by omega, by go_num, Lib.hid (by rw [HPS.out]; exact HBO.out.below (Below.drewN (Below.refl _ _) _))⟩
        case measure => simp [intOf]; omega
    · obtain rfl : k = n2 := by omega
      have hsm := small_play (D := D) (F := F) l HLZ.out small_T0
      have hT2 : Both w6 wr tb rb D F (ms.take 64) (play D F T0 l) := by have h0 := hT.out; have e : l.take k = l := List.take_of_length_le (by rw [← E2.out]; exact Nat.le_refl _); rwa [e] at h0
      obtain ⟨T, hTT⟩ : ∃ T, T = play D F T0 l := ⟨_, rfl⟩
      rw [← hTT] at hT2 hsm
      have HSM := Lib.hid hsm
      have HT2 := Lib.hid hT2
      clear hTT hT hT2 hsm
      have hN : T.length ≤ 4096 := HT2.out.toTB.wf.le
      obtain ⟨N, hNN⟩ : ∃ N, N = T.length := ⟨_, rfl⟩
      have EN := Lib.hid hNN
      rw [← hNN] at hN
      clear hNN
      go_wp2_with fail
      go_loopw [15] (fun i wr => ∃ q : Nat, q ≤ N + 2 ∧ i = .int .i64 ((q : Int) - 1) ∧ Hid (Both w6 wr tb rb D F (ms.take 64) T)) (fun i _ => N + 2 - (intOf i + 1).toNat)
      case atStart => exact ⟨0, Nat.zero_le _, rfl, HT2⟩
      case round =>
        obtain ⟨q, hq, rfl, hT⟩ := hrel
        obtain ⟨X, t1, r1, x1⟩ := hT.out
        obtain ⟨nv, sb, sc, pb, pc, kv, hin⟩ := id r1
        have c3 := hin.hd.cell 3 _ rfl
        rw [← EN.out] at c3
        have hT1 := Lib.hid t1; have HR1 := Lib.hid r1; have HX1 := Lib.hid x1
        clear hin t1 r1 x1
        by_cases hle : (q : Int) - 1 ≤ (N : Int)
        · obtain ⟨ii, hii⟩ : ∃ ii : Int, ii = (q : Int) - 1 := ⟨_, rfl⟩
          rw [← hii] at hle ⊢
          have hi0 : -1 ≤ ii := by omega
          have HII := Lib.hid hii
          have hz63 : az.size ≤ maxLen := by have := HAZ.out; unfold maxLen; omega
          obtain ⟨sr, hsr⟩ : ∃ r : Nat, r = (slotM T ii az).getD 0 := ⟨_, rfl⟩
          obtain ⟨so, hso⟩ : ∃ o, o = (slotM T ii az).isSome := ⟨_, rfl⟩
          obtain ⟨mk, hmk⟩ : ∃ m, m = marksM (ms.take 64) T ii := ⟨_, rfl⟩
          obtain ⟨ks, hks⟩ : ∃ k, k = keysM T ii := ⟨_, rfl⟩
          have HSL : Hid (∀ W, Both w6 W tb rb D F (ms.take 64) T → Calls Try.prog 34 #[.pointer (some ⟨tb, 0, none⟩), .int .i64 ii, .string az] W fun e w' => e = .returned (.tuple #[.int .i64 sr, .bool so]) ∧ W = w') := Lib.hid (fun W h => by rw [hsr, hso]; exact h.toTB.slot ii az hz63)
          have HRS : Hid (∀ W, Both w6 W tb rb D F (ms.take 64) T → Calls Try.prog 37 #[.pointer (some ⟨rb, 0, none⟩), .int .i64 ii, .string az] W fun e w' => e = .returned (.tuple #[.int .i64 sr, .bool so]) ∧ W = w') := Lib.hid (fun W h => by rw [hsr, hso]; obtain ⟨X, h⟩ := h.ref; exact rslot_calls h ii az)
          have HMK : Hid (∀ W, Both w6 W tb rb D F (ms.take 64) T → Calls Try.prog 31 #[.pointer (some ⟨tb, 0, none⟩), .int .i64 ii] W fun e w' => e = .returned (.int .u64 mk) ∧ W = w') := Lib.hid (fun W h => by rw [hmk]; exact h.toTB.marks ii)
          have HRM : Hid (∀ W, Both w6 W tb rb D F (ms.take 64) T → Calls Try.prog 39 #[.pointer (some ⟨rb, 0, none⟩), .int .i64 ii] W fun e w' => e = .returned (.int .u64 mk) ∧ W = w') := Lib.hid (fun W h => by rw [hmk]; obtain ⟨X, h⟩ := h.ref; exact rmarks_calls h ii)
          have HKE : Hid (∀ W, Both w6 W tb rb D F (ms.take 64) T → Calls Try.prog 30 #[.pointer (some ⟨tb, 0, none⟩), .int .i64 ii] W fun e w' => ∃ v, e = .returned v ∧ NewStrs W w' v ks) := Lib.hid (fun W h => by rw [hks]; exact (h.toTB.keys ii).mono fun _ _ ⟨v, h1, h2, _⟩ => ⟨v, h1, h2⟩)
          have HRK : Hid (∀ W, Both w6 W tb rb D F (ms.take 64) T → Calls Try.prog 38 #[.pointer (some ⟨rb, 0, none⟩), .int .i64 ii] W fun e w' => ∃ v, e = .returned v ∧ NewStrs W w' v ks) := Lib.hid (fun W h => by rw [hks]; obtain ⟨X, h⟩ := h.ref; exact rkeys_calls h ii)
          have HSAME : Hid (∀ W v1 v2, Strs W v1 ks → Strs W v2 ks → Calls Try.prog 32 #[v1, v2] W fun e w' => e = .returned (.bool true) ∧ ∃ n, w' = W.drewN n) := Lib.hid (fun W v1 v2 h1 h2 => by have := same_calls v1 v2 ks ks W (RdS.of_row h1) (RdS.of_row h2); rwa [decide_eq_true (rfl : ks = ks)] at this)
          have HBSW : Hid (∀ W, Both w6 W tb rb D F (ms.take 64) T → W.cell? ⟨bs, 1, none⟩ = some (.string az)) := Lib.hid (fun W h => (HBS6.out.of (h.bel.block _ HBS6.out.lt)).cell 1 _ rfl)
          have HKS : Hid (∀ s ∈ ks, s.size ≤ 140737488355328) := Lib.hid (by rw [hks]; exact small_keys HSM.out ii)
          have h64 : ks.length ≤ 64 := by
            rw [hks]; unfold keysM; split
            · simp
            · exact WF.keys_len hT.out.toTB.wf (by omega)
          obtain ⟨m, hm⟩ : ∃ m, m = ks.length := ⟨_, rfl⟩
          have EM := Lib.hid hm
          rw [← hm] at h64
          clear hsr hso hmk hks hz63 hii hm
          have hle2 := Lib.hid hle
          cases so with
          | false =>
            go_upto_region 22 with (first
              | (go_at_call 30; (with_reducible refine (HKE.out _ hT.out).mono ?_); rintro e w9 ⟨v, rfl, hnv⟩; obtain ⟨va, vc, hvf⟩ := ownsRow_form hnv.1; rw [← EM.out] at hvf; subst hvf; have HNV := Lib.hid hnv; have HGE := Lib.hid (fun (g : Nat) (hg : (Value.slice va m vc).ownBlock = some g) => Nat.le_trans hT.out.bel.size (hnv.2.1 g hg)); have HX9 := Lib.hid ((hT.out.apart (Z := fun b => (Value.slice va m vc).ownBlock = some b) (fun b hb => hnv.2.1 b hb)).below hnv.2.2); have HT9 := Lib.hid (hT.out.below hnv.2.2); have hs1 := HBSW.out _ HT9.out; clear hnv)
              | (go_at_call 34; (with_reducible refine (HSL.out _ HT9.out).mono ?_); rintro e w' ⟨rfl, rfl⟩)
              | (go_at_call 37; (with_reducible refine (HRS.out _ HT9.out).mono ?_); rintro e w' ⟨rfl, rfl⟩)
              | (go_at_call 38; (with_reducible refine (HRK.out _ HT9.out).mono ?_); rintro e w10 ⟨v2, rfl, hnv2⟩; obtain ⟨va2, vc2, hvf2⟩ := ownsRow_form hnv2.1; rw [← EM.out] at hvf2; subst hvf2; have HT10 := Lib.hid (HT9.out.below hnv2.2.2); have HX10 := Lib.hid (HX9.out.below hnv2.2.2); have HST := Lib.hid (HNV.out.1.below hnv2.2.2); have HCS := Lib.hid (HSAME.out _ _ _ HST.out hnv2.1); clear hnv2)
              | (go_at_call 32; (with_reducible refine HCS.out.mono ?_); rintro e w11 ⟨rfl, nn, rfl⟩; have HT11 := Lib.hid (HT10.out.below (w' := w10.drewN nn) (Below.drewN (Below.refl _ _) nn)); have HX11 := Lib.hid (HX10.out.below (w' := w10.drewN nn) (Below.drewN (Below.refl _ _) nn)); have HST11 : Hid (Strs (w10.drewN nn) (.slice va m vc) ks) := Lib.hid (ownsRow_of HST.out (fun _ _ => rfl)))
              | (go_at_call 31; (with_reducible refine (HMK.out _ HT11.out).mono ?_); rintro e w' ⟨rfl, rfl⟩)
              | (go_at_call 39; (with_reducible refine (HRM.out _ HT11.out).mono ?_); rintro e w' ⟨rfl, rfl⟩))
            generalize w10.drewN nn = w11 at *
            clear HNV HX9 HT9 HT10 HX10 HST HCS HT11 hs1 c3 hT1 HR1 HX1
            have hvc : m ≤ vc ∧ vc ≤ 9223372036854775807 := by
              rcases HST11.out.2 with ⟨q1, q2⟩ | ⟨g, c, cur, q1, _, q3, q4, q5, _⟩
              · cases q1; exact ⟨Nat.le_refl _, by omega⟩
              · cases q1; rw [EM.out]; exact ⟨q4, q5⟩
            obtain ⟨hvc1, hvc2⟩ := hvc
            go_wp2_with fail
            go_loopw [137] (fun i wr4 => ∃ (j : Nat) (xs : List ByteArray), j ≤ m ∧ i = .int .i64 j ∧ Hid (xs.length = m ∧ Strs wr4 (.slice va m vc) xs ∧ (∀ s ∈ xs.drop j, s.size ≤ 140737488355328) ∧ BothX (fun b => (Value.slice va m vc).ownBlock = some b) w6 wr4 tb rb D F (ms.take 64) T)) (fun i _ => m - (intOf i).toNat)
            case atStart => exact ⟨0, ks, Nat.zero_le _, rfl, Lib.hid ⟨EM.out.symm, HST11.out, by simpa using HKS.out, HX11.out⟩⟩
            case round =>
              obtain ⟨j, xs, hj, rfl, hA⟩ := hrel
              by_cases hlt4 : j < m
              · have hjl : j < xs.length := by rw [hA.out.1]; exact hlt4
                obtain ⟨g, hg⟩ : ∃ g, va = some ⟨g, 0, none⟩ := by
                  rcases hA.out.2.1.2 with ⟨_, h0⟩ | ⟨g, _, _, h0, _⟩
                  · omega
                  · exact ⟨g, by simpa using (Value.slice.inj h0).1⟩
                subst hg
                have hrow : wr.ownsRow 0 9 1 (.slice (some ⟨g, 0, none⟩) m vc) m (xs.map .string) := by have := hA.out.2.1; unfold Strs at this; rwa [hA.out.1] at this
                have y1 := hrow.cells (g := g) rfl j (.string xs[j]) (by rw [List.getElem?_map, List.getElem?_eq_getElem hjl]; rfl)
                rw [addr0] at y1
                have fz := hrow.frozenAt j
                have hz1 : xs[j].size ≤ 140737488355328 := hA.out.2.2.1 _ (by rw [List.drop_eq_getElem_cons hjl]; exact List.mem_cons.2 (.inl rfl))
                have HST4 := Lib.hid (fun y : ByteArray => hrow.stored j (.string y))
                clear hrow
                generalize xs[j] = z at *
                have hz2 : z.size + 1 ≤ 9223372036854775807 := by omega
                go_wp2_with fail
                go_roundw
                case rel =>
                  refine ⟨j + 1, xs.set j (z ++ ⟨#[120]⟩), by omega, by go_num, Lib.hid ⟨by simp [hA.out.1], ?_, ?_, ?_⟩⟩
                  · have h1 := (HST4.out (z ++ ⟨#[120]⟩)).1
                    unfold Strs
                    rw [List.length_set, hA.out.1, List.map_set]
                    exact h1
                  · intro s hs
                    refine hA.out.2.2.1 s ?_
                    rw [List.drop_set_of_lt (by omega)] at hs
                    have : xs.drop j = xs[j] :: xs.drop (j + 1) := List.drop_eq_getElem_cons hjl
                    rw [this]; exact List.mem_cons_of_mem _ hs
                  · exact hA.out.2.2.2.written (HST4.out _).2 (fun g hg => ⟨HGE.out g hg, hg⟩)
                case measure => simp [intOf]; omega
              · obtain rfl : j = m := by omega
                have HTE := Lib.hid hA.out.2.2.2.both
                go_wp2_with (first
                  | (go_at_call 30; (with_reducible refine (HKE.out _ HTE.out).mono ?_); rintro e w12 ⟨v5, rfl, hnv⟩; obtain ⟨va5, vc5, hvf⟩ := ownsRow_form hnv.1; rw [← EM.out] at hvf; subst hvf; have HNV := Lib.hid hnv; have HT12 := Lib.hid (HTE.out.below hnv.2.2); clear hnv)
                  | (go_at_call 38; (with_reducible refine (HRK.out _ HT12.out).mono ?_); rintro e w13 ⟨v6, rfl, hnv2⟩; obtain ⟨va6, vc6, hvf2⟩ := ownsRow_form hnv2.1; rw [← EM.out] at hvf2; subst hvf2; have HT13 := Lib.hid (HT12.out.below hnv2.2.2); have HCS := Lib.hid (HSAME.out _ _ _ (HNV.out.1.below hnv2.2.2) hnv2.1); clear hnv2)
                  | (go_at_call 32; (with_reducible refine HCS.out.mono ?_); rintro e w14 ⟨rfl, nn2, rfl⟩; have HT14 := Lib.hid (HT13.out.below (w' := w13.drewN nn2) (Below.drewN (Below.refl _ _) nn2))))
                go_roundw
                case rel => exact ⟨q + 1, by have h1 := hle2.out; have h2 := HII.out; omega, by have h2 := HII.out; subst h2; go_num, Lib.hid HT14.out⟩
                case measure => have := HII.out; simp [intOf]; omega
          | true =>
            go_upto_region 22 with (first
              | (go_at_call 30; (with_reducible refine (HKE.out _ hT.out).mono ?_); rintro e w9 ⟨v, rfl, hnv⟩; obtain ⟨va, vc, hvf⟩ := ownsRow_form hnv.1; rw [← EM.out] at hvf; subst hvf; have HNV := Lib.hid hnv; have HGE := Lib.hid (fun (g : Nat) (hg : (Value.slice va m vc).ownBlock = some g) => Nat.le_trans hT.out.bel.size (hnv.2.1 g hg)); have HX9 := Lib.hid ((hT.out.apart (Z := fun b => (Value.slice va m vc).ownBlock = some b) (fun b hb => hnv.2.1 b hb)).below hnv.2.2); have HT9 := Lib.hid (hT.out.below hnv.2.2); have hs1 := HBSW.out _ HT9.out; clear hnv)
              | (go_at_call 34; (with_reducible refine (HSL.out _ HT9.out).mono ?_); rintro e w' ⟨rfl, rfl⟩)
              | (go_at_call 37; (with_reducible refine (HRS.out _ HT9.out).mono ?_); rintro e w' ⟨rfl, rfl⟩)
              | (go_at_call 38; (with_reducible refine (HRK.out _ HT9.out).mono ?_); rintro e w10 ⟨v2, rfl, hnv2⟩; obtain ⟨va2, vc2, hvf2⟩ := ownsRow_form hnv2.1; rw [← EM.out] at hvf2; subst hvf2; have HT10 := Lib.hid (HT9.out.below hnv2.2.2); have HX10 := Lib.hid (HX9.out.below hnv2.2.2); have HST := Lib.hid (HNV.out.1.below hnv2.2.2); have HCS := Lib.hid (HSAME.out _ _ _ HST.out hnv2.1); clear hnv2)
              | (go_at_call 32; (with_reducible refine HCS.out.mono ?_); rintro e w11 ⟨rfl, nn, rfl⟩; have HT11 := Lib.hid (HT10.out.below (w' := w10.drewN nn) (Below.drewN (Below.refl _ _) nn)); have HX11 := Lib.hid (HX10.out.below (w' := w10.drewN nn) (Below.drewN (Below.refl _ _) nn)); have HST11 : Hid (Strs (w10.drewN nn) (.slice va m vc) ks) := Lib.hid (ownsRow_of HST.out (fun _ _ => rfl)))
              | (go_at_call 31; (with_reducible refine (HMK.out _ HT11.out).mono ?_); rintro e w' ⟨rfl, rfl⟩)
              | (go_at_call 39; (with_reducible refine (HRM.out _ HT11.out).mono ?_); rintro e w' ⟨rfl, rfl⟩))
            generalize w10.drewN nn = w11 at *
            clear HNV HX9 HT9 HT10 HX10 HST HCS HT11 hs1 c3 hT1 HR1 HX1
            have hvc : m ≤ vc ∧ vc ≤ 9223372036854775807 := by
              rcases HST11.out.2 with ⟨q1, q2⟩ | ⟨g, c, cur, q1, _, q3, q4, q5, _⟩
              · cases q1; exact ⟨Nat.le_refl _, by omega⟩
              · cases q1; rw [EM.out]; exact ⟨q4, q5⟩
            obtain ⟨hvc1, hvc2⟩ := hvc
            go_wp2_with fail
            go_loopw [137] (fun i wr4 => ∃ (j : Nat) (xs : List ByteArray), j ≤ m ∧ i = .int .i64 j ∧ Hid (xs.length = m ∧ Strs wr4 (.slice va m vc) xs ∧ (∀ s ∈ xs.drop j, s.size ≤ 140737488355328) ∧ BothX (fun b => (Value.slice va m vc).ownBlock = some b) w6 wr4 tb rb D F (ms.take 64) T)) (fun i _ => m - (intOf i).toNat)
            case atStart => exact ⟨0, ks, Nat.zero_le _, rfl, Lib.hid ⟨EM.out.symm, HST11.out, by simpa using HKS.out, HX11.out⟩⟩
            case round =>
              obtain ⟨j, xs, hj, rfl, hA⟩ := hrel
              by_cases hlt4 : j < m
              · have hjl : j < xs.length := by rw [hA.out.1]; exact hlt4
                obtain ⟨g, hg⟩ : ∃ g, va = some ⟨g, 0, none⟩ := by
                  rcases hA.out.2.1.2 with ⟨_, h0⟩ | ⟨g, _, _, h0, _⟩
                  · omega
                  · exact ⟨g, by simpa using (Value.slice.inj h0).1⟩
                subst hg
                have hrow : wr.ownsRow 0 9 1 (.slice (some ⟨g, 0, none⟩) m vc) m (xs.map .string) := by have := hA.out.2.1; unfold Strs at this; rwa [hA.out.1] at this
                have y1 := hrow.cells (g := g) rfl j (.string xs[j]) (by rw [List.getElem?_map, List.getElem?_eq_getElem hjl]; rfl)
                rw [addr0] at y1
                have fz := hrow.frozenAt j
                have hz1 : xs[j].size ≤ 140737488355328 := hA.out.2.2.1 _ (by rw [List.drop_eq_getElem_cons hjl]; exact List.mem_cons.2 (.inl rfl))
                have HST4 := Lib.hid (fun y : ByteArray => hrow.stored j (.string y))
                clear hrow
                generalize xs[j] = z at *
                have hz2 : z.size + 1 ≤ 9223372036854775807 := by omega
                go_wp2_with fail
                go_roundw
                case rel =>
                  refine ⟨j + 1, xs.set j (z ++ ⟨#[120]⟩), by omega, by go_num, Lib.hid ⟨by simp [hA.out.1], ?_, ?_, ?_⟩⟩
                  · have h1 := (HST4.out (z ++ ⟨#[120]⟩)).1
                    unfold Strs
                    rw [List.length_set, hA.out.1, List.map_set]
                    exact h1
                  · intro s hs
                    refine hA.out.2.2.1 s ?_
                    rw [List.drop_set_of_lt (by omega)] at hs
                    have : xs.drop j = xs[j] :: xs.drop (j + 1) := List.drop_eq_getElem_cons hjl
                    rw [this]; exact List.mem_cons_of_mem _ hs
                  · exact hA.out.2.2.2.written (HST4.out _).2 (fun g hg => ⟨HGE.out g hg, hg⟩)
                case measure => simp [intOf]; omega
              · obtain rfl : j = m := by omega
                have HTE := Lib.hid hA.out.2.2.2.both
                go_wp2_with (first
                  | (go_at_call 30; (with_reducible refine (HKE.out _ HTE.out).mono ?_); rintro e w12 ⟨v5, rfl, hnv⟩; obtain ⟨va5, vc5, hvf⟩ := ownsRow_form hnv.1; rw [← EM.out] at hvf; subst hvf; have HNV := Lib.hid hnv; have HT12 := Lib.hid (HTE.out.below hnv.2.2); clear hnv)
                  | (go_at_call 38; (with_reducible refine (HRK.out _ HT12.out).mono ?_); rintro e w13 ⟨v6, rfl, hnv2⟩; obtain ⟨va6, vc6, hvf2⟩ := ownsRow_form hnv2.1; rw [← EM.out] at hvf2; subst hvf2; have HT13 := Lib.hid (HT12.out.below hnv2.2.2); have HCS := Lib.hid (HSAME.out _ _ _ (HNV.out.1.below hnv2.2.2) hnv2.1); clear hnv2)
                  | (go_at_call 32; (with_reducible refine HCS.out.mono ?_); rintro e w14 ⟨rfl, nn2, rfl⟩; have HT14 := Lib.hid (HT13.out.below (w' := w13.drewN nn2) (Below.drewN (Below.refl _ _) nn2))))
                go_roundw
                case rel => exact ⟨q + 1, by have h1 := hle2.out; have h2 := HII.out; omega, by have h2 := HII.out; subst h2; go_num, Lib.hid HT14.out⟩
                case measure => have := HII.out; simp [intOf]; omega
        · have hle' : decide ((q : Int) - 1 ≤ (N : Int)) = false := decide_eq_false hle
          go_wp2
          go_ret
          exact ⟨rfl, HB6.out.trans (hT.out.bel.mono HB6.out.size)⟩
end Go.Proofs.Ytmjfmfelbmbniaa
