/- Layer 14: the key behind another one. -/
import Derived.Test.YtmjfmfelbmbniaaTaN
namespace Go.Proofs.Ytmjfmfelbmbniaa
open Go.RowKit Go.Maps HK ShM
set_option linter.unusedVariables false
set_option linter.unusedSimpArgs false
open RH
section
variable {w w' w0 : World} {X Y B : Nat → Prop} {tb i M N d : Nat} {tp mp av sv : Value} {T : List Sh} {A S : List Val} {R : Pairs} {s : Tab} {D F : Int}
theorem tnextO_calls (h : TAt w X tb tp mp T s N) (ht : Tr w B tp D F T) (x : Val) (hx : x.s.size ≤ maxLen) : Calls Try.prog 125 #[.pointer (some ⟨tb, 0, none⟩), x.v] w fun e w' => e = .returned (.tuple #[(nextM s.R x).1.1.v, (nextM s.R x).1.2.v, .int .i64 (nextM s.R x).2]) ∧ Below w.heap.size w w' := by
  obtain ⟨h0, ⟨h1, S, av, sv, h2, h3⟩ | ⟨h1, h2, av, d, Y, h3⟩⟩ := h
  · rw [h3]; exact tnextO_sh h2 ht x hx
  · exact tnextO_ha h3 x hx
theorem firstA_end {A : List Val} {j : Nat} (h : A.length ≤ j) : firstA A j = none := by
  unfold firstA
  rw [List.drop_eq_nil_of_le h]
  rfl
theorem firstA_skip {A : List Val} {j : Nat} {u : Val} (h : A[j]? = some u) (hk : u.k = 0) : firstA A j = firstA A (j + 1) := by
  obtain ⟨hl, he⟩ := List.getElem?_eq_some_iff.1 h
  unfold firstA
  rw [List.drop_eq_getElem_cons hl, he, List.findIdx?_cons]
  have : decide (u.k ≠ 0) = false := by simp [hk]
  rw [this]
  cases hf : (A.drop (j + 1)).findIdx? (fun v => decide (v.k ≠ 0)) with
  | none => rfl
  | some i =>
    show some (intV ((j + (i + 1) : Nat) + 1), A.getD (j + (i + 1)) Val.nil) = some (intV ((j + 1 + i : Nat) + 1), A.getD (j + 1 + i) Val.nil)
    rw [show j + (i + 1) = j + 1 + i by omega]
theorem firstA_hit {A : List Val} {j : Nat} {u : Val} (h : A[j]? = some u) (hk : u.k ≠ 0) : firstA A j = some (intV ((j : Nat) + 1), u) := by
  obtain ⟨hl, he⟩ := List.getElem?_eq_some_iff.1 h
  unfold firstA
  rw [List.drop_eq_getElem_cons hl, he, List.findIdx?_cons]
  have : decide (u.k ≠ 0) = true := by simp [hk]
  rw [this]
  show some (intV ((j + 0 : Nat) + 1), A.getD (j + 0) Val.nil) = _
  rw [Nat.add_zero, List.getD_eq_getElem?_getD, h]
  rfl
theorem aboveM_nat (s : Tab) (j : Nat) : aboveM s j = match firstA s.A j with | some p => (p, 0) | none => nextM s.R Val.nil := by
  unfold aboveM
  rw [Int.toNat_natCast]
  cases firstA s.A j <;> rfl
set_option maxHeartbeats 8000000 in
set_option maxRecDepth 20000 in
theorem tabove_calls (h : TAt w X tb tp mp T s N) (ht : Tr w B tp D F T) (j0 : Nat) (hN : N ≤ 1000000) : Calls Try.prog 124 #[.pointer (some ⟨tb, 0, none⟩), .int .i64 (j0 : Nat)] w fun e w' => e = .returned (.tuple #[(aboveM s j0).1.1.v, (aboveM s j0).1.2.v, .int .i64 (aboveM s j0).2]) ∧ Below w.heap.size w w' := by
  have HB0 : Hid (Below w.heap.size w ((w.alloc (.cells #[.int .i64 0, .int .i64 0, .string ⟨#[]⟩] 57)).alloc (.cells #[.int .i64 0, .int .i64 0, .string ⟨#[]⟩] 57))) := Lib.hid (by (repeat (first | exact Below.refl _ _ | (refine Below.alloc ?_ (by simp <;> omega) _))))
  have HTW : Hid (Two ((w.alloc (.cells #[.int .i64 0, .int .i64 0, .string ⟨#[]⟩] 57)).alloc (.cells #[.int .i64 0, .int .i64 0, .string ⟨#[]⟩] 57)) w.heap.size) := Lib.hid (by
    have h1 := Blk.new w [.int .i64 0, .int .i64 0, .string ⟨#[]⟩] 57
    have h2 := Blk.new (w.alloc (.cells #[.int .i64 0, .int .i64 0, .string ⟨#[]⟩] 57)) [.int .i64 0, .int .i64 0, .string ⟨#[]⟩] 57
    exact ⟨h1.alloc _, by simpa using h2⟩)
  have HTA := Lib.hid h
  have HI := Lib.hid (fun (n : Int) (W : World) => ofInt_calls n W)
  have HNX := Lib.hid (fun (W : World) (hW : Below w.heap.size w W) => tnextO_calls (h.below hW) (ht.below hW) Val.nil (by decide))
  have HLN := Lib.hid (fun (W : World) (hW : Below w.heap.size w W) => tlen_calls (h.below hW))
  obtain ⟨n, hn⟩ : ∃ n, n = s.A.length := ⟨_, rfl⟩
  have EN := Lib.hid hn
  have hn6 : n ≤ 1000000 := by rw [hn]; have := h.1; omega
  rw [← hn] at HLN
  obtain ⟨⟨⟨⟨r1, r2, r3⟩, ⟨s1, s2, s3⟩⟩, ne⟩, hR⟩ : ∃ R', aboveM s j0 = R' := ⟨_, rfl⟩
  rw [hR]
  have HR := Lib.hid hR
  obtain ⟨⟨⟨⟨k1, k2, k3⟩, ⟨l1, l2, l3⟩⟩, nx⟩, hX⟩ : ∃ R', nextM s.R Val.nil = R' := ⟨_, rfl⟩
  rw [hX] at HNX
  have HX := Lib.hid hX
  clear hn h ht hR hX
  go_enter Try.func124, Try.ntmps124
  go_upto_region 1 with fail
  obtain ⟨w1, hw1⟩ : ∃ z, z = ((w.alloc (.cells #[.int .i64 0, .int .i64 0, .string ⟨#[]⟩] 57)).alloc (.cells #[.int .i64 0, .int .i64 0, .string ⟨#[]⟩] 57)) := ⟨_, rfl⟩
  rw [← hw1] at HB0 HTW ⊢
  clear hw1
  go_wp2_with fail
  go_loopw [7] (fun ii wr => ∃ j : Nat, ii = .int .i64 j ∧ Hid (Below w1.heap.size w1 wr ∧ aboveM s j = ((⟨r1, r2, r3⟩, ⟨s1, s2, s3⟩), ne))) (fun ii _ => n - (intOf ii).toNat)
  case atStart => exact ⟨j0, rfl, Lib.hid ⟨Below.refl _ _, HR.out⟩⟩
  case round =>
    obtain ⟨j, rfl, hre⟩ := hrel
    have HBR := Lib.hid (HB0.out.trans (hre.out.1.mono HB0.out.size))
    have HTR := Lib.hid (HTW.out.below hre.out.1)
    have hne45 : w.heap.size + 1 ≠ w.heap.size := by omega
    by_cases hlt : j < n
    · have hjl : j < s.A.length := by rw [← EN.out]; exact hlt
      obtain ⟨u, hu⟩ : ∃ u, s.A[j]? = some u := ⟨_, List.getElem?_eq_getElem hjl⟩
      obtain ⟨av, sv, rp, hbk, harr, _⟩ := (HTA.out.below HBR.out).head
      have c0 := hbk.cell 0 _ rfl
      obtain ⟨g, cap, hge, hcl⟩ := harr.cell hu
      obtain ⟨_, _, hge2, hcp1, hcp2⟩ := harr.form
      rw [hge2] at hge
      cases hge
      subst hge2
      rw [← EN.out] at c0 hcp1
      have u0 := hcl 0 _ (by decide) rfl
      have u1 := hcl 1 _ (by decide) rfl
      have u2 := hcl 2 _ (by decide) rfl
      rw [Nat.add_zero] at u0
      have hj0' : (0 : Int) ≤ (j : Int) := by omega
      have hj1 : (j : Int) < (n : Int) := by omega
      have HU := Lib.hid hu
      clear hcl harr hbk hu hjl
      have HLR := Lib.hid (HLN.out _ HBR.out)
      obtain ⟨v1, v2, v3⟩ := u
      by_cases hv : v1 = 0
      · subst hv
        have HN' : Hid (aboveM s (j + 1 : Nat) = ((⟨r1, r2, r3⟩, ⟨s1, s2, s3⟩), ne)) := Lib.hid (by
          have e := hre.out.2
          rw [aboveM_nat, firstA_skip HU.out rfl, ← aboveM_nat] at e
          exact e)
        go_wp2_with (go_at_call 72; (with_reducible refine HLR.out.mono ?_); rintro e w4 ⟨rfl, rfl⟩)
        go_roundw
        case rel => exact ⟨j + 1, by go_num, Lib.hid ⟨hre.out.1.alloc hre.out.1.size _, HN'.out⟩⟩
        case measure => simp [intOf]; omega
      · have hR := hre.out.2
        rw [aboveM_nat, firstA_hit HU.out hv] at hR
        simp only [Prod.mk.injEq, Val.mk.injEq] at hR
        obtain ⟨⟨⟨rfl, rfl, rfl⟩, rfl, rfl, rfl⟩, rfl⟩ := hR
        have hv' : (v1 != 0) = true := by simp [hv]
        have hwr : IntKind.i64.wrap ((j : Int) + 1) = (j : Int) + 1 := by rw [← wrap64_eq]; unfold RowKit.wrap64; omega
        go_upto_region 6 with (go_at_call 72; (with_reducible refine HLR.out.mono ?_); rintro e w4 ⟨rfl, rfl⟩)
        clear c0 u0 u1 u2
        obtain ⟨b8, hb8⟩ : ∃ b, b = wr.heap.size := ⟨_, rfl⟩
        have H8 := Lib.hid (Blk.new wr [.int .i64 v1, .int .i64 v2, .string v3] 57)
        have HB4 := Lib.hid (HBR.out.alloc HBR.out.size (.cells #[.int .i64 v1, .int .i64 v2, .string v3] 57))
        have HT4 := Lib.hid (HTR.out.below ((Below.refl wr.heap.size wr).alloc (Nat.le_refl _) (.cells #[.int .i64 v1, .int .i64 v2, .string v3] 57)))
        have h8n : w.heap.size + 1 < b8 := by rw [hb8]; exact HTR.out.h5.lt
        obtain ⟨w4, hw4⟩ : ∃ W, W = wr.alloc (.cells #[.int .i64 v1, .int .i64 v2, .string v3] 57) := ⟨_, rfl⟩
        rw [← hb8] at H8 ⊢
        rw [← hw4] at H8 HB4 HT4 ⊢
        clear hw4 hb8 hre HTR HBR
        have hBr : Below w4.heap.size w4 ({ w4 with drawn := w4.drawn + 1 } : World) := ⟨rfl, rfl, rfl, Nat.le_refl _, fun _ _ => rfl⟩
        refine RG.region_F (Chg (fun b => b = w.heap.size ∨ b = w.heap.size + 1) w4) 6 (by kernel_rfl) ?_
        have hS4 : Chg (fun b => b = w.heap.size ∨ b = w.heap.size + 1) w4 ({ w4 with drawn := w4.drawn + 1 } : World) := Chg.ofBelow hBr
        generalize ({ w4 with drawn := w4.drawn + 1 } : World) = w5 at hS4 hBr ⊢
        have q0 : ∀ W, Chg (fun b => b = w.heap.size ∨ b = w.heap.size + 1) w4 W → W.cell? ⟨b8, 0, none⟩ = some (.int .i64 v1) := fun W hW => (H8.out.of (hW.block _ H8.out.lt (fun h => by omega))).cell 0 _ rfl
        have q1 : ∀ W, Chg (fun b => b = w.heap.size ∨ b = w.heap.size + 1) w4 W → W.cell? ⟨b8, 1, none⟩ = some (.int .i64 v2) := fun W hW => (H8.out.of (hW.block _ H8.out.lt (fun h => by omega))).cell 1 _ rfl
        have q2 : ∀ W, Chg (fun b => b = w.heap.size ∨ b = w.heap.size + 1) w4 W → W.cell? ⟨b8, 2, none⟩ = some (.string v3) := fun W hW => (H8.out.of (hW.block _ H8.out.lt (fun h => by omega))).cell 2 _ rfl
        refine RG.takeF 0 (oi := ⟨some 26, _, _, _, _, _⟩) (v := ?_) rfl (by kernel_rfl) (by kernel_rfl) (by kernel_rfl) (by kernel_rfl) (fun _ _ _ h => h) (Or.inl ⟨by rfl, ?hyA0⟩) hS4 ?restA0
        case hyA0 => (intro W hW; (try dsimp only at hW); go_simp; try with_reducible rfl)
        try simp only [Act.put, List.setIfInBounds_toArray, List.set_cons_zero, List.set_cons_succ]
        refine RG.takeF 1 (oi := ⟨some 27, _, _, _, _, _⟩) (v := ?_) rfl (by kernel_rfl) (by kernel_rfl) (by kernel_rfl) (by kernel_rfl) (fun _ _ _ h => h) (Or.inl ⟨by rfl, ?hyA1⟩) hS4 ?restA1
        case hyA1 => (intro W hW; (try dsimp only at hW); go_simp; try with_reducible rfl)
        try simp only [Act.put, List.setIfInBounds_toArray, List.set_cons_zero, List.set_cons_succ]
        refine RG.takeF 3 (oi := ⟨some 29, _, _, _, _, _⟩) (v := ?_) rfl (by kernel_rfl) (by kernel_rfl) (by kernel_rfl) (by kernel_rfl) (fun _ _ _ h => h) (Or.inl ⟨by rfl, ?hyA3⟩) hS4 ?restA3
        case hyA3 => (intro W hW; (try dsimp only at hW); go_simp; try with_reducible rfl)
        try simp only [Act.put, List.setIfInBounds_toArray, List.set_cons_zero, List.set_cons_succ]
        refine RG.oneF 2 (by kernel_rfl) (by decide) ?_
        refine RG.wpOp_wanted rfl (by rfl) fun K hK => ?_
        go_simp
        with_reducible refine (HI.out _ _).mono ?_
        rintro e w6 ⟨rfl, hb⟩
        have hS6 : Chg (fun b => b = w.heap.size ∨ b = w.heap.size + 1) w4 w6 := hS4.trans (Chg.ofBelow hb) (fun b _ h => h)
        have hBr6 := hBr.trans (hb.mono hBr.size)
        have HB6 := Lib.hid (HB4.out.trans (hBr6.mono HB4.out.size))
        have HT6 := Lib.hid (HT4.out.below hBr6)
        clear hb hBr6
        refine hK _ _ ⟨hS6, ?_⟩
        clear hK K
        try simp only [Act.put, List.setIfInBounds_toArray, List.set_cons_zero, List.set_cons_succ]
        have a0 := HT6.out.h4.cell 0 _ rfl
        have f0 := HT6.out.h4.frozen 0
        have a1 := HT6.out.h4.cell 1 _ rfl
        have f1 := HT6.out.h4.frozen 1
        have a2 := HT6.out.h4.cell 2 _ rfl
        have f2 := HT6.out.h4.frozen 2
        have b0 := HT6.out.h5.cell 0 _ rfl
        have g0 := HT6.out.h5.frozen 0
        have b1 := HT6.out.h5.cell 1 _ rfl
        have g1 := HT6.out.h5.frozen 1
        have b2 := HT6.out.h5.cell 2 _ rfl
        have g2 := HT6.out.h5.frozen 2
        refine RG.oneF 4 (by kernel_rfl) (by decide) ?_
        refine RG.wpOp_wanted rfl (by rfl) fun K hK => ?_
        go_simp
        refine hK _ _ ⟨((hS6.setCell (a := ⟨w.heap.size, 0, none⟩) (fun _ => .inl rfl) _).setCell (a := ⟨w.heap.size, 1, none⟩) (fun _ => .inl rfl) _).setCell (a := ⟨w.heap.size, 2, none⟩) (fun _ => .inl rfl) _, ?_⟩
        clear hK K
        try simp only [Act.put, List.setIfInBounds_toArray, List.set_cons_zero, List.set_cons_succ]
        refine RG.oneF 5 (by kernel_rfl) (by decide) ?_
        refine RG.wpOp_wanted rfl (by rfl) fun K hK => ?_
        go_simp
        refine hK _ _ ⟨(((((hS6.setCell (a := ⟨w.heap.size, 0, none⟩) (fun _ => .inl rfl) _).setCell (a := ⟨w.heap.size, 1, none⟩) (fun _ => .inl rfl) _).setCell (a := ⟨w.heap.size, 2, none⟩) (fun _ => .inl rfl) _).setCell (a := ⟨w.heap.size + 1, 0, none⟩) (fun _ => .inr rfl) _).setCell (a := ⟨w.heap.size + 1, 1, none⟩) (fun _ => .inr rfl) _).setCell (a := ⟨w.heap.size + 1, 2, none⟩) (fun _ => .inr rfl) _, ?_⟩
        clear hK K
        try simp only [Act.put, List.setIfInBounds_toArray, List.set_cons_zero, List.set_cons_succ]
        refine RG.lastF (by kernel_rfl) (by kernel_rfl) ?_
        refine RG.wpOp_wanted rfl (by rfl) fun K hK => ?_
        go_simp
        refine hK _ _ ?_
        clear hK K
        try simp only [Act.put, List.setIfInBounds_toArray, List.set_cons_zero, List.set_cons_succ]
        clear q0 q1 q2
        go_wp2
        refine bodyPost_ret (results_val3 (x := intV ((j : Int) + 1)) (y := ⟨v1, v2, v3⟩) rfl _ rfl rfl rfl ((((((HT6.out.h4.setSame 0 _).setSame 1 _).setSame 2 _).setOther (Ne.symm hne45) _).setOther (Ne.symm hne45) _).setOther (Ne.symm hne45) _) ((((((HT6.out.h5.setOther hne45 _).setOther hne45 _).setOther hne45 _).setSame 0 _).setSame 1 _).setSame 2 _)) rfl ⟨rfl, ?_⟩
        exact (((((HB6.out.setCell (by simp) _).setCell (by simp) _).setCell (by simp) _).setCell (by simp <;> omega) _).setCell (by simp <;> omega) _).setCell (by simp <;> omega) _
    · have hR := hre.out.2
      rw [aboveM_nat, firstA_end (by rw [← EN.out]; omega)] at hR
      have hR : nextM s.R Val.nil = ((⟨r1, r2, r3⟩, ⟨s1, s2, s3⟩), ne) := hR
      rw [HX.out] at hR
      simp only [Prod.mk.injEq, Val.mk.injEq] at hR
      obtain ⟨⟨⟨rfl, rfl, rfl⟩, rfl, rfl, rfl⟩, rfl⟩ := hR
      have HLR := Lib.hid (HLN.out _ HBR.out)
      have HNR := Lib.hid (HNX.out _ HBR.out)
      have hle : ¬ (j : Int) < (n : Int) := by omega
      go_wp2_with (first
        | (go_at_call 72; (with_reducible refine HLR.out.mono ?_); rintro e w4 ⟨rfl, rfl⟩)
        | (go_at_call 125; (with_reducible refine HNR.out.mono ?_); rintro e w5 ⟨rfl, hb⟩; have HB5 := Lib.hid (HBR.out.trans (hb.mono HBR.out.size)); have HT5 := Lib.hid (HTR.out.below hb); clear hb; have a0 := HT5.out.h4.cell 0 _ rfl; have f0 := HT5.out.h4.frozen 0; have a1 := HT5.out.h4.cell 1 _ rfl; have f1 := HT5.out.h4.frozen 1; have a2 := HT5.out.h4.cell 2 _ rfl; have f2 := HT5.out.h4.frozen 2; have b0 := HT5.out.h5.cell 0 _ rfl; have g0 := HT5.out.h5.frozen 0; have b1 := HT5.out.h5.cell 1 _ rfl; have g1 := HT5.out.h5.frozen 1; have b2 := HT5.out.h5.cell 2 _ rfl; have g2 := HT5.out.h5.frozen 2))
      refine bodyPost_ret (results_val3 (x := ⟨k1, k2, k3⟩) (y := ⟨l1, l2, l3⟩) rfl _ rfl rfl rfl ((((((HT5.out.h4.setSame 0 _).setSame 1 _).setSame 2 _).setOther (Ne.symm hne45) _).setOther (Ne.symm hne45) _).setOther (Ne.symm hne45) _) ((((((HT5.out.h5.setOther hne45 _).setOther hne45 _).setOther hne45 _).setSame 0 _).setSame 1 _).setSame 2 _)) rfl ⟨rfl, ?_⟩
      exact (((((HB5.out.setCell (by simp) _).setCell (by simp) _).setCell (by simp) _).setCell (by simp <;> omega) _).setCell (by simp <;> omega) _).setCell (by simp <;> omega) _
end
end Go.Proofs.Ytmjfmfelbmbniaa
