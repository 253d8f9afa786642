/- Layer 14: the next key of the rest. -/
import Derived.Test.YtmjfmfelbmbniaaBE
namespace Go.Proofs.Ytmjfmfelbmbniaa
open Go.RowKit Go.Maps HK ShM
set_option linter.unusedVariables false
set_option linter.unusedSimpArgs false

section
variable {w w' : World} {X Y B : Nat → Prop} {tb i M N d : Nat} {tp mp av sv : Value} {T : List Sh} {A S : List Val} {R : Pairs} {s : Tab} {D F : Int}
set_option maxHeartbeats 8000000 in
set_option maxRecDepth 20000 in
theorem tnextO_ha (h : THa w X tb tp mp A R M av d Y) (x : Val) (hx : x.s.size ≤ maxLen) : Calls Try.prog 125 #[.pointer (some ⟨tb, 0, none⟩), x.v] w fun e w' => e = .returned (.tuple #[(nextM R x).1.1.v, (nextM R x).1.2.v, .int .i64 (nextM R x).2]) ∧ Below w.heap.size w w' := by
  have HB0 : Hid (Below w.heap.size w (((w.alloc (.cells #[.int .i64 x.k, .int .i64 x.n, .string x.s] 57)).alloc (.cells #[.int .i64 0, .int .i64 0, .string ⟨#[]⟩] 57)).alloc (.cells #[.int .i64 0, .int .i64 0, .string ⟨#[]⟩] 57))) := Lib.hid (by (repeat (first | exact Below.refl _ _ | (refine Below.alloc ?_ (by simp <;> omega) _))))
  have HTW : Hid (Two (((w.alloc (.cells #[.int .i64 x.k, .int .i64 x.n, .string x.s] 57)).alloc (.cells #[.int .i64 0, .int .i64 0, .string ⟨#[]⟩] 57)).alloc (.cells #[.int .i64 0, .int .i64 0, .string ⟨#[]⟩] 57)) (w.heap.size + 1)) := Lib.hid (by
    have h1 := Blk.new (w.alloc (.cells #[.int .i64 x.k, .int .i64 x.n, .string x.s] 57)) [.int .i64 0, .int .i64 0, .string ⟨#[]⟩] 57
    have h2 := Blk.new ((w.alloc (.cells #[.int .i64 x.k, .int .i64 x.n, .string x.s] 57)).alloc (.cells #[.int .i64 0, .int .i64 0, .string ⟨#[]⟩] 57)) [.int .i64 0, .int .i64 0, .string ⟨#[]⟩] 57
    exact ⟨by simpa using h1.alloc _, by simpa using h2⟩)
  have HXK : Hid (Blk (((w.alloc (.cells #[.int .i64 x.k, .int .i64 x.n, .string x.s] 57)).alloc (.cells #[.int .i64 0, .int .i64 0, .string ⟨#[]⟩] 57)).alloc (.cells #[.int .i64 0, .int .i64 0, .string ⟨#[]⟩] 57)) w.heap.size 57 [.int .i64 x.k, .int .i64 x.n, .string x.s]) := Lib.hid (((Blk.new w [.int .i64 x.k, .int .i64 x.n, .string x.s] 57).alloc _).alloc _)
  have HHA := Lib.hid h
  have HNX := Lib.hid (fun (W : World) (hW : Below w.heap.size w W) => dnext_calls (h.dict.below hW) x hx)
  obtain ⟨⟨⟨⟨r1, r2, r3⟩, ⟨s1, s2, s3⟩⟩, ne⟩, hR⟩ : ∃ R', nextM R x = R' := ⟨_, rfl⟩
  rw [hR] at HNX ⊢
  have c2 := (h.below HB0.out).hd.cell 2 _ rfl
  obtain ⟨x1, x2, x3⟩ := x
  clear hR hx h
  go_enter Try.func125, Try.ntmps125
  go_upto_region 2 with (fail)
  clear c2
  obtain ⟨w1, hw1⟩ : ∃ z, z = (((w.alloc (.cells #[.int .i64 x1, .int .i64 x2, .string x3] 57)).alloc (.cells #[.int .i64 0, .int .i64 0, .string ⟨#[]⟩] 57)).alloc (.cells #[.int .i64 0, .int .i64 0, .string ⟨#[]⟩] 57)) := ⟨_, rfl⟩
  have HB1 : Hid (Below w.heap.size w w1) := Lib.hid (by rw [hw1]; exact HB0.out)
  have HT1 : Hid (Two w1 (w.heap.size + 1)) := Lib.hid (by rw [hw1]; exact HTW.out)
  have HX1 : Hid (Blk w1 w.heap.size 57 [.int .i64 x1, .int .i64 x2, .string x3]) := Lib.hid (by rw [hw1]; exact HXK.out)
  rw [← hw1]
  clear hw1 HB0 HTW HXK
  have hB0 : Below w1.heap.size w1 ({ w1 with drawn := w1.drawn + 1 } : World) := ⟨rfl, rfl, rfl, Nat.le_refl _, fun _ _ => rfl⟩
  refine RG.region_F (Chg (fun b => b = w.heap.size + 1 ∨ b = w.heap.size + 1 + 1) w1) 11 (by kernel_rfl) ?_
  have hS0 : Chg (fun b => b = w.heap.size + 1 ∨ b = w.heap.size + 1 + 1) w1 ({ w1 with drawn := w1.drawn + 1 } : World) := Chg.ofBelow hB0
  generalize ({ w1 with drawn := w1.drawn + 1 } : World) = w2 at hS0 hB0 ⊢
  have q5 : ∀ W, Chg (fun b => b = w.heap.size + 1 ∨ b = w.heap.size + 1 + 1) w1 W → W.cell? ⟨tb, 5, none⟩ = some (.pointer (some ⟨d, 0, none⟩)) := fun W hW => by
    have ht := HHA.out.hd.lt
    exact ((HHA.out.below HB1.out).hd.of (hW.block _ (HHA.out.below HB1.out).hd.lt (fun h => by omega))).cell 5 _ rfl
  have p0 : ∀ W, Chg (fun b => b = w.heap.size + 1 ∨ b = w.heap.size + 1 + 1) w1 W → W.cell? ⟨w.heap.size, 0, none⟩ = some (.int .i64 x1) := fun W hW => (HX1.out.of (hW.block _ HX1.out.lt (fun h => by omega))).cell 0 _ rfl
  have p1 : ∀ W, Chg (fun b => b = w.heap.size + 1 ∨ b = w.heap.size + 1 + 1) w1 W → W.cell? ⟨w.heap.size, 1, none⟩ = some (.int .i64 x2) := fun W hW => (HX1.out.of (hW.block _ HX1.out.lt (fun h => by omega))).cell 1 _ rfl
  have p2 : ∀ W, Chg (fun b => b = w.heap.size + 1 ∨ b = w.heap.size + 1 + 1) w1 W → W.cell? ⟨w.heap.size, 2, none⟩ = some (.string x3) := fun W hW => (HX1.out.of (hW.block _ HX1.out.lt (fun h => by omega))).cell 2 _ rfl
  refine RG.takeF 0 (oi := ⟨some 17, _, _, _, _, _⟩) (v := ?_) rfl (by kernel_rfl) (by kernel_rfl) (by kernel_rfl) (by kernel_rfl) (fun _ _ _ h => h) (Or.inl ⟨by rfl, ?hyA0⟩) hS0 ?restA0
  case hyA0 => (intro W hW; (try dsimp only at hW); go_simp; try with_reducible rfl)
  try simp only [Act.put, List.setIfInBounds_toArray, List.set_cons_zero, List.set_cons_succ]
  refine RG.takeF 1 (oi := ⟨some 18, _, _, _, _, _⟩) (v := ?_) rfl (by kernel_rfl) (by kernel_rfl) (by kernel_rfl) (by kernel_rfl) (fun _ _ _ h => h) (Or.inl ⟨by rfl, ?hyA1⟩) hS0 ?restA1
  case hyA1 => (intro W hW; (try dsimp only at hW); go_simp; try with_reducible rfl)
  try simp only [Act.put, List.setIfInBounds_toArray, List.set_cons_zero, List.set_cons_succ]
  refine RG.takeF 2 (oi := ⟨some 19, _, _, _, _, _⟩) (v := ?_) rfl (by kernel_rfl) (by kernel_rfl) (by kernel_rfl) (by kernel_rfl) (fun _ _ _ h => h) (Or.inl ⟨by rfl, ?hyA2⟩) hS0 ?restA2
  case hyA2 => (intro W hW; (try dsimp only at hW); go_simp; try with_reducible rfl)
  try simp only [Act.put, List.setIfInBounds_toArray, List.set_cons_zero, List.set_cons_succ]
  refine RG.takeF 3 (oi := ⟨some 20, _, _, _, _, _⟩) (v := ?_) rfl (by kernel_rfl) (by kernel_rfl) (by kernel_rfl) (by kernel_rfl) (fun _ _ _ h => h) (Or.inl ⟨by rfl, ?hyA3⟩) hS0 ?restA3
  case hyA3 => (intro W hW; (try dsimp only at hW); go_simp; try with_reducible rfl)
  try simp only [Act.put, List.setIfInBounds_toArray, List.set_cons_zero, List.set_cons_succ]
  refine RG.takeF 4 (oi := ⟨some 21, _, _, _, _, _⟩) (v := ?_) rfl (by kernel_rfl) (by kernel_rfl) (by kernel_rfl) (by kernel_rfl) (fun _ _ _ h => h) (Or.inl ⟨by rfl, ?hyA4⟩) hS0 ?restA4
  case hyA4 => (intro W hW; (try dsimp only at hW); go_simp; try with_reducible rfl)
  try simp only [Act.put, List.setIfInBounds_toArray, List.set_cons_zero, List.set_cons_succ]
  refine RG.oneF 5 (by kernel_rfl) (by decide) ?_
  refine RG.wpOp_wanted rfl (by rfl) fun K hK => ?_
  go_simp
  have hb1 : Below w.heap.size w w2 := HB1.out.trans (hB0.mono HB1.out.size)
  with_reducible refine (HNX.out _ hb1).mono ?_
  rintro e w3 ⟨rfl, hb⟩
  have hS3 : Chg (fun b => b = w.heap.size + 1 ∨ b = w.heap.size + 1 + 1) w1 w3 := hS0.trans (Chg.ofBelow hb) (fun b _ h => h)
  have HB3 := Lib.hid (hb1.trans (hb.mono hb1.size))
  have HT3 := Lib.hid ((HT1.out.below hB0).below hb)
  clear hb hb1
  refine hK _ _ ⟨hS3, ?_⟩
  clear hK K
  try simp only [Act.put, List.setIfInBounds_toArray, List.set_cons_zero, List.set_cons_succ]
  refine RG.takeF 6 (oi := ⟨some 23, _, _, _, _, _⟩) (v := ?_) rfl (by kernel_rfl) (by kernel_rfl) (by kernel_rfl) (by kernel_rfl) (fun _ _ _ h => h) (Or.inl ⟨by rfl, ?hyB6⟩) hS3 ?restB6
  case hyB6 => (intro W hW; (try dsimp only at hW); go_simp; try with_reducible rfl)
  try simp only [Act.put, List.setIfInBounds_toArray, List.set_cons_zero, List.set_cons_succ]
  refine RG.takeF 7 (oi := ⟨some 24, _, _, _, _, _⟩) (v := ?_) rfl (by kernel_rfl) (by kernel_rfl) (by kernel_rfl) (by kernel_rfl) (fun _ _ _ h => h) (Or.inl ⟨by rfl, ?hyB7⟩) hS3 ?restB7
  case hyB7 => (intro W hW; (try dsimp only at hW); go_simp; try with_reducible rfl)
  try simp only [Act.put, List.setIfInBounds_toArray, List.set_cons_zero, List.set_cons_succ]
  refine RG.takeF 8 (oi := ⟨some 25, _, _, _, _, _⟩) (v := ?_) rfl (by kernel_rfl) (by kernel_rfl) (by kernel_rfl) (by kernel_rfl) (fun _ _ _ h => h) (Or.inl ⟨by rfl, ?hyB8⟩) hS3 ?restB8
  case hyB8 => (intro W hW; (try dsimp only at hW); go_simp; try with_reducible rfl)
  try simp only [Act.put, List.setIfInBounds_toArray, List.set_cons_zero, List.set_cons_succ]
  have a0 := HT3.out.h4.cell 0 _ rfl
  have f0 := HT3.out.h4.frozen 0
  have a1 := HT3.out.h4.cell 1 _ rfl
  have f1 := HT3.out.h4.frozen 1
  have a2 := HT3.out.h4.cell 2 _ rfl
  have f2 := HT3.out.h4.frozen 2
  have b0 := HT3.out.h5.cell 0 _ rfl
  have g0 := HT3.out.h5.frozen 0
  have b1 := HT3.out.h5.cell 1 _ rfl
  have g1 := HT3.out.h5.frozen 1
  have b2 := HT3.out.h5.cell 2 _ rfl
  have g2 := HT3.out.h5.frozen 2
  have hne45 : w.heap.size + 1 + 1 ≠ w.heap.size + 1 := by omega
  refine RG.oneF 9 (by kernel_rfl) (by decide) ?_
  refine RG.wpOp_wanted rfl (by rfl) fun K hK => ?_
  go_simp
  refine hK _ _ ⟨((hS3.setCell (a := ⟨w.heap.size + 1, 0, none⟩) (fun _ => .inl rfl) _).setCell (a := ⟨w.heap.size + 1, 1, none⟩) (fun _ => .inl rfl) _).setCell (a := ⟨w.heap.size + 1, 2, none⟩) (fun _ => .inl rfl) _, ?_⟩
  clear hK K
  try simp only [Act.put, List.setIfInBounds_toArray, List.set_cons_zero, List.set_cons_succ]
  refine RG.oneF 10 (by kernel_rfl) (by decide) ?_
  refine RG.wpOp_wanted rfl (by rfl) fun K hK => ?_
  go_simp
  refine hK _ _ ⟨(((((hS3.setCell (a := ⟨w.heap.size + 1, 0, none⟩) (fun _ => .inl rfl) _).setCell (a := ⟨w.heap.size + 1, 1, none⟩) (fun _ => .inl rfl) _).setCell (a := ⟨w.heap.size + 1, 2, none⟩) (fun _ => .inl rfl) _).setCell (a := ⟨w.heap.size + 1 + 1, 0, none⟩) (fun _ => .inr rfl) _).setCell (a := ⟨w.heap.size + 1 + 1, 1, none⟩) (fun _ => .inr rfl) _).setCell (a := ⟨w.heap.size + 1 + 1, 2, none⟩) (fun _ => .inr rfl) _, ?_⟩
  clear hK K
  try simp only [Act.put, List.setIfInBounds_toArray, List.set_cons_zero, List.set_cons_succ]
  refine RG.lastF (by kernel_rfl) (by kernel_rfl) ?_
  refine RG.wpOp_wanted rfl (by rfl) fun K hK => ?_
  go_simp
  refine hK _ _ ?_
  clear hK K
  try simp only [Act.put, List.setIfInBounds_toArray, List.set_cons_zero, List.set_cons_succ]
  clear q5 p0 p1 p2
  go_wp2
  refine bodyPost_ret (results_val3 (x := ⟨r1, r2, r3⟩) (y := ⟨s1, s2, s3⟩) rfl _ rfl rfl rfl ((((((HT3.out.h4.setSame 0 _).setSame 1 _).setSame 2 _).setOther (Ne.symm hne45) _).setOther (Ne.symm hne45) _).setOther (Ne.symm hne45) _) ((((((HT3.out.h5.setOther hne45 _).setOther hne45 _).setOther hne45 _).setSame 0 _).setSame 1 _).setSame 2 _)) rfl ⟨rfl, ?_⟩
  exact (((((HB3.out.setCell (by simp) _).setCell (by simp) _).setCell (by simp) _).setCell (by simp; omega) _).setCell (by simp; omega) _).setCell (by simp; omega) _
set_option maxHeartbeats 8000000 in
set_option maxRecDepth 20000 in
theorem tnextO_sh (h : TSh w X tb tp mp T A i S av sv) (ht : Tr w B tp D F T) (x : Val) (hx : x.s.size ≤ maxLen) : Calls Try.prog 125 #[.pointer (some ⟨tb, 0, none⟩), x.v] w fun e w' => e = .returned (.tuple #[(nextM (strPairs (ksOf T i) S) x).1.1.v, (nextM (strPairs (ksOf T i) S) x).1.2.v, .int .i64 (nextM (strPairs (ksOf T i) S) x).2]) ∧ Below w.heap.size w w' := by
  have HB0 : Hid (Below w.heap.size w (((w.alloc (.cells #[.int .i64 x.k, .int .i64 x.n, .string x.s] 57)).alloc (.cells #[.int .i64 0, .int .i64 0, .string ⟨#[]⟩] 57)).alloc (.cells #[.int .i64 0, .int .i64 0, .string ⟨#[]⟩] 57))) := Lib.hid (by (repeat (first | exact Below.refl _ _ | (refine Below.alloc ?_ (by simp <;> omega) _))))
  have HTW : Hid (Two (((w.alloc (.cells #[.int .i64 x.k, .int .i64 x.n, .string x.s] 57)).alloc (.cells #[.int .i64 0, .int .i64 0, .string ⟨#[]⟩] 57)).alloc (.cells #[.int .i64 0, .int .i64 0, .string ⟨#[]⟩] 57)) (w.heap.size + 1)) := Lib.hid (by
    have h1 := Blk.new (w.alloc (.cells #[.int .i64 x.k, .int .i64 x.n, .string x.s] 57)) [.int .i64 0, .int .i64 0, .string ⟨#[]⟩] 57
    have h2 := Blk.new ((w.alloc (.cells #[.int .i64 x.k, .int .i64 x.n, .string x.s] 57)).alloc (.cells #[.int .i64 0, .int .i64 0, .string ⟨#[]⟩] 57)) [.int .i64 0, .int .i64 0, .string ⟨#[]⟩] 57
    exact ⟨by simpa using h1.alloc _, by simpa using h2⟩)
  have HXK : Hid (Blk (((w.alloc (.cells #[.int .i64 x.k, .int .i64 x.n, .string x.s] 57)).alloc (.cells #[.int .i64 0, .int .i64 0, .string ⟨#[]⟩] 57)).alloc (.cells #[.int .i64 0, .int .i64 0, .string ⟨#[]⟩] 57)) w.heap.size 57 [.int .i64 x.k, .int .i64 x.n, .string x.s]) := Lib.hid (((Blk.new w [.int .i64 x.k, .int .i64 x.n, .string x.s] 57).alloc _).alloc _)
  have HSH := Lib.hid h
  have HSL := Lib.hid (fun (W : World) (hW : Below w.heap.size w W) => tslot_calls (h.below hW) (ht.below hW) x hx)
  have HKS := Lib.hid (fun (W : World) (hW : Below w.heap.size w W) => (ht.below hW).keys i)
  have hkm : keysM T (i : Nat) = ksOf T i := by
    unfold keysM
    rw [if_neg (by have := h.lti; omega), Int.toNat_natCast]
  rw [hkm] at HKS
  have hlr := strPairs_len h.len
  have HOK := Lib.hid (strPairs_ok h.len h.nd h.sz)
  obtain ⟨ks, hks⟩ : ∃ ks, ks = ksOf T i := ⟨_, rfl⟩
  obtain ⟨L, hL⟩ : ∃ L, L = strPairs (ksOf T i) S := ⟨_, rfl⟩
  rw [← hL] at HOK hlr ⊢
  rw [← hks] at HKS hlr
  have HLAT : Hid (∀ j k v, ks[j]? = some k → S[j]? = some v → L[j]? = some (strV k, v)) := Lib.hid (fun j k v h1 h2 => by rw [hL]; exact strPairs_at (by rw [← hks]; exact h1) h2)
  have hSl : S.length = ks.length := by rw [hks]; exact h.len
  have h64 : ks.length ≤ 64 := by rw [hks]; exact h.le64
  obtain ⟨sa, sc, hsv, hsc1, hsc2⟩ := h.slo.form
  subst hsv
  have HO := Lib.hid (fun (z : ByteArray) (W : World) => ofStr_calls z W)
  have HCS := Lib.hid (fun (W : World) (hW : Below w.heap.size w W) (j : Nat) (u : Val) (hu : S[j]? = some u) => (h.slo.below hW).cell hu)
  have c2 := (h.below HB0.out).hd.cell 2 _ rfl
  by_cases hk : x.k = 0
  · have hM : nextM L x = (firstLive (L.drop 0), 0) := by unfold nextM; rw [if_pos hk, List.drop_zero]
    rw [hM]
    obtain ⟨⟨R1, R2⟩, hR⟩ : ∃ R, firstLive (L.drop 0) = R := ⟨_, rfl⟩
    rw [hR]
    have HL := Lib.hid hR
    obtain ⟨x1, x2, x3⟩ := x
    have hk : x1 = 0 := hk
    subst hk
    clear hM hR hx h ht hL hkm HSL hks
    go_enter Try.func125, Try.ntmps125
    go_upto_region 9 with (fail)
    clear c2
    obtain ⟨w1, hw1⟩ : ∃ z, z = (((w.alloc (.cells #[.int .i64 0, .int .i64 x2, .string x3] 57)).alloc (.cells #[.int .i64 0, .int .i64 0, .string ⟨#[]⟩] 57)).alloc (.cells #[.int .i64 0, .int .i64 0, .string ⟨#[]⟩] 57)) := ⟨_, rfl⟩
    have HB1 : Hid (Below w.heap.size w w1) := Lib.hid (by rw [hw1]; exact HB0.out)
    have HT1 : Hid (Two w1 (w.heap.size + 1)) := Lib.hid (by rw [hw1]; exact HTW.out)
    rw [← hw1]
    clear hw1 HB0 HTW HXK
    have hB0 : Below w1.heap.size w1 ({ w1 with drawn := w1.drawn + 1 } : World) := ⟨rfl, rfl, rfl, Nat.le_refl _, fun _ _ => rfl⟩
    refine wp_region_held (S := Below w1.heap.size w1) (by kernel_rfl) ?_
    have hS0 := hB0
    generalize ({ w1 with drawn := w1.drawn + 1 } : World) = w2 at hS0 hB0 ⊢
    have q1 : ∀ W, Below w1.heap.size w1 W → W.cell? ⟨tb, 1, none⟩ = some tp := fun W hW => (HSH.out.below (HB1.out.trans (hW.mono HB1.out.size))).hd.cell 1 _ rfl
    have q3 : ∀ W, Below w1.heap.size w1 W → W.cell? ⟨tb, 3, none⟩ = some (.int .i64 (i : Nat)) := fun W hW => (HSH.out.below (HB1.out.trans (hW.mono HB1.out.size))).hd.cell 3 _ rfl
    refine RG.takeH 0 (oi := ⟨some 41, _, _, _, _, _⟩) (v := ?_) rfl (by kernel_rfl) (by kernel_rfl) (by kernel_rfl) (fun _ _ _ h => h) (Or.inl ⟨by rfl, ?hyLz0⟩) hS0 ?restLz0
    case hyLz0 => (intro W hW; (try dsimp only at hW); go_simp; try with_reducible rfl)
    try simp only [Act.put, List.setIfInBounds_toArray, List.set_cons_zero, List.set_cons_succ]
    refine RG.takeH 1 (oi := ⟨some 42, _, _, _, _, _⟩) (v := ?_) rfl (by kernel_rfl) (by kernel_rfl) (by kernel_rfl) (fun _ _ _ h => h) (Or.inl ⟨by rfl, ?hyLz1⟩) hS0 ?restLz1
    case hyLz1 => (intro W hW; (try dsimp only at hW); go_simp; try with_reducible rfl)
    try simp only [Act.put, List.setIfInBounds_toArray, List.set_cons_zero, List.set_cons_succ]
    refine RG.takeH 2 (oi := ⟨some 43, _, _, _, _, _⟩) (v := ?_) rfl (by kernel_rfl) (by kernel_rfl) (by kernel_rfl) (fun _ _ _ h => h) (Or.inl ⟨by rfl, ?hyLz2⟩) hS0 ?restLz2
    case hyLz2 => (intro W hW; (try dsimp only at hW); go_simp; try with_reducible rfl)
    try simp only [Act.put, List.setIfInBounds_toArray, List.set_cons_zero, List.set_cons_succ]
    refine RG.takeH 3 (oi := ⟨some 44, _, _, _, _, _⟩) (v := ?_) rfl (by kernel_rfl) (by kernel_rfl) (by kernel_rfl) (fun _ _ _ h => h) (Or.inl ⟨by rfl, ?hyLz3⟩) hS0 ?restLz3
    case hyLz3 => (intro W hW; (try dsimp only at hW); go_simp; try with_reducible rfl)
    try simp only [Act.put, List.setIfInBounds_toArray, List.set_cons_zero, List.set_cons_succ]
    refine RG.takeH 4 (oi := ⟨some 45, _, _, _, _, _⟩) (v := ?_) rfl (by kernel_rfl) (by kernel_rfl) (by kernel_rfl) (fun _ _ _ h => h) (Or.inl ⟨by rfl, ?hyLz4⟩) hS0 ?restLz4
    case hyLz4 => (intro W hW; (try dsimp only at hW); go_simp; try with_reducible rfl)
    try simp only [Act.put, List.setIfInBounds_toArray, List.set_cons_zero, List.set_cons_succ]
    refine RG.takeH 5 (oi := ⟨some 46, _, _, _, _, _⟩) (v := ?_) rfl (by kernel_rfl) (by kernel_rfl) (by kernel_rfl) (fun _ _ _ h => h) (Or.inl ⟨by rfl, ?hyLz5⟩) hS0 ?restLz5
    case hyLz5 => (intro W hW; (try dsimp only at hW); go_simp; try with_reducible rfl)
    try simp only [Act.put, List.setIfInBounds_toArray, List.set_cons_zero, List.set_cons_succ]
    refine RG.takeH 6 (oi := ⟨some 47, _, _, _, _, _⟩) (v := ?_) rfl (by kernel_rfl) (by kernel_rfl) (by kernel_rfl) (fun _ _ _ h => h) (Or.inl ⟨by rfl, ?hyLz6⟩) hS0 ?restLz6
    case hyLz6 => (intro W hW; (try dsimp only at hW); go_simp; try with_reducible rfl)
    try simp only [Act.put, List.setIfInBounds_toArray, List.set_cons_zero, List.set_cons_succ]
    refine RG.takeH 7 (oi := ⟨some 48, _, _, _, _, _⟩) (v := ?_) rfl (by kernel_rfl) (by kernel_rfl) (by kernel_rfl) (fun _ _ _ h => h) (Or.inl ⟨by rfl, ?hyLz7⟩) hS0 ?restLz7
    case hyLz7 => (intro W hW; (try dsimp only at hW); go_simp; try with_reducible rfl)
    try simp only [Act.put, List.setIfInBounds_toArray, List.set_cons_zero, List.set_cons_succ]
    refine RG.takeH 10 (oi := ⟨some 51, _, _, _, _, _⟩) (v := ?_) rfl (by kernel_rfl) (by kernel_rfl) (by kernel_rfl) (fun _ _ _ h => h) (Or.inl ⟨by rfl, ?hyLz10⟩) hS0 ?restLz10
    case hyLz10 => (intro W hW; (try dsimp only at hW); go_simp; try with_reducible rfl)
    try simp only [Act.put, List.setIfInBounds_toArray, List.set_cons_zero, List.set_cons_succ]
    refine RG.one (i := 8) (by kernel_rfl) ?_
    refine RG.wpOp_wanted rfl (by rfl) fun K hK => ?_
    go_simp
    with_reducible refine (HKS.out _ (HB1.out.trans (hB0.mono HB1.out.size))).mono ?_
    rintro e w3 ⟨kv, rfl, hkv, hown, hb⟩
    have hS3 : Below w1.heap.size w1 w3 := hS0.trans (hb.mono hS0.size)
    have HB3 := Lib.hid (HB1.out.trans (hS3.mono HB1.out.size))
    have HT3 := Lib.hid (HT1.out.below hS3)
    have HKV := Lib.hid hkv
    clear hb hown
    obtain ⟨ka, kc, hkve, hkc1, hkc2⟩ := hkv.form
    clear hkv
    subst hkve
    refine hK _ _ ⟨hS3, ?_⟩
    clear hK K
    try simp only [Act.put, List.setIfInBounds_toArray, List.set_cons_zero, List.set_cons_succ]
    refine RG.takeH 9 (oi := ⟨some 50, _, _, _, _, _⟩) (v := ?_) rfl (by kernel_rfl) (by kernel_rfl) (by kernel_rfl) (fun _ _ _ h => h) (Or.inl ⟨by rfl, ?hyLzx9⟩) hS3 ?restLzx9
    case hyLzx9 => (intro W hW; (try dsimp only at hW); go_simp; try with_reducible rfl)
    try simp only [Act.put, List.setIfInBounds_toArray, List.set_cons_zero, List.set_cons_succ]
    refine wpAnyH_done (by kernel_rfl) ?_ _
    clear q1 q3
    obtain ⟨m, hm⟩ : ∃ m, m = ks.length := ⟨_, rfl⟩
    have EM := Lib.hid hm
    rw [← hm] at hkc1 h64 ⊢
    clear hm
    go_wp2_with fail
    go_loopw [51] (fun ii wr => ∃ j : Nat, j ≤ m ∧ ii = .int .i64 j ∧ Hid (Below w3.heap.size w3 wr ∧ firstLive (L.drop (max 0 j)) = (R1, R2))) (fun ii _ => m - (intOf ii).toNat)
    case atStart => exact ⟨0, Nat.zero_le _, rfl, Lib.hid ⟨Below.refl _ _, by rw [Nat.max_zero]; exact HL.out⟩⟩
    case round =>
      obtain ⟨j, hj, rfl, hre⟩ := hrel
      have HBR := Lib.hid (HB3.out.trans (hre.out.1.mono HB3.out.size))
      have HTR := Lib.hid (HT3.out.below hre.out.1)
      by_cases hlt : j < m
      · have hjl : j < ks.length := by rw [← EM.out]; exact hlt
        obtain ⟨kj, hkj⟩ : ∃ k, ks[j]? = some k := ⟨_, List.getElem?_eq_getElem hjl⟩
        obtain ⟨uj, huj⟩ : ∃ u, S[j]? = some u := ⟨_, List.getElem?_eq_getElem (by omega)⟩
        have HLJ := Lib.hid (HLAT.out j kj uj hkj huj)
        obtain ⟨kg, kcap, hke, hkcell⟩ := (HKV.out.below hre.out.1).cell hkj
        cases hke
        obtain ⟨g, cap, hge, hcl⟩ := HCS.out _ HBR.out j uj huj
        cases hge
        have c4 := (HSH.out.below HBR.out).hd.cell 4 _ rfl
        have u0 := hcl 0 _ (by decide) rfl
        have u1 := hcl 1 _ (by decide) rfl
        have u2 := hcl 2 _ (by decide) rfl
        rw [Nat.add_zero] at u0
        have hSm : S.length = m := by rw [hSl, EM.out]
        rw [hSm] at c4 hsc1
        have hj0' : (0 : Int) ≤ (j : Int) := by omega
        have hj1 : (j : Int) < (m : Int) := by omega
        have HSL2 := Lib.hid hSm
        have HSJ := Lib.hid huj
        clear hcl hkj huj hSm
        obtain ⟨u_1, u_2, u_3⟩ := uj
        by_cases hat : 0 ≤ j
        · have hat' : ((0 : Int) ≤ (j : Int)) := by omega
          by_cases hv : u_1 = 0
          · have HN := Lib.hid hv
            subst hv
            go_wp2_with fail
            go_roundw
            case rel => exact ⟨j + 1, by omega, by go_num, Lib.hid ⟨hre.out.1, by
              have h1 := hre.out.2
              rw [Nat.max_eq_right hat] at h1
              rw [Nat.max_eq_right (by omega), rfirst_skip HLJ.out rfl]; exact h1⟩⟩
            case measure => simp [intOf]; omega
          · have hR := hre.out.2
            rw [Nat.max_eq_right hat, rfirst_hit HLJ.out hv] at hR
            cases hR
            have hv' : (u_1 != 0) = true := by simp [hv]
            go_upto_region 13 with (fail)
            clear c4 u0 u1 u2 hkcell
            have hBr : Below wr.heap.size wr ({ wr with drawn := wr.drawn + 1 } : World) := ⟨rfl, rfl, rfl, Nat.le_refl _, fun _ _ => rfl⟩
            refine RG.region_F (Chg (fun b => b = w.heap.size + 1 ∨ b = w.heap.size + 1 + 1) wr) 11 (by kernel_rfl) ?_
            have hS4 : Chg (fun b => b = w.heap.size + 1 ∨ b = w.heap.size + 1 + 1) wr ({ wr with drawn := wr.drawn + 1 } : World) := Chg.ofBelow hBr
            generalize ({ wr with drawn := wr.drawn + 1 } : World) = w4 at hS4 hBr ⊢
            have q4 : ∀ W, Chg (fun b => b = w.heap.size + 1 ∨ b = w.heap.size + 1 + 1) wr W → W.cell? ⟨tb, 4, none⟩ = some (.slice (some ⟨g, 0, none⟩) m sc) := fun W hW => by
              have ht := HSH.out.hd.lt
              rw [← HSL2.out]
              exact ((HSH.out.below HBR.out).hd.of (hW.block _ (HSH.out.below HBR.out).hd.lt (fun h => by omega))).cell 4 _ rfl
            have qs : ∀ W, Chg (fun b => b = w.heap.size + 1 ∨ b = w.heap.size + 1 + 1) wr W → W.heap[g]? = wr.heap[g]? := fun W hW => by
              have hg : g < w.heap.size := (HSH.out.slo.lt g rfl).2
              exact hW.block g (Nat.lt_of_lt_of_le hg HBR.out.size) (fun h => by omega)
            have u0 : ∀ W, Chg (fun b => b = w.heap.size + 1 ∨ b = w.heap.size + 1 + 1) wr W → W.cell? ⟨g, j * 3, none⟩ = some (.int .i64 u_1) := fun W hW => by
              obtain ⟨g', cap', hge, hcl⟩ := HCS.out _ HBR.out j _ (HSJ.out)
              cases hge
              exact (World.cell?_of_block (qs W hW)).trans (by have := hcl 0 _ (by decide) rfl; rwa [Nat.add_zero] at this)
            have u1 : ∀ W, Chg (fun b => b = w.heap.size + 1 ∨ b = w.heap.size + 1 + 1) wr W → W.cell? ⟨g, j * 3 + 1, none⟩ = some (.int .i64 u_2) := fun W hW => by
              obtain ⟨g', cap', hge, hcl⟩ := HCS.out _ HBR.out j _ (HSJ.out)
              cases hge
              exact (World.cell?_of_block (qs W hW)).trans (hcl 1 _ (by decide) rfl)
            have u2 : ∀ W, Chg (fun b => b = w.heap.size + 1 ∨ b = w.heap.size + 1 + 1) wr W → W.cell? ⟨g, j * 3 + 2, none⟩ = some (.string u_3) := fun W hW => by
              obtain ⟨g', cap', hge, hcl⟩ := HCS.out _ HBR.out j _ (HSJ.out)
              cases hge
              exact (World.cell?_of_block (qs W hW)).trans (hcl 2 _ (by decide) rfl)
            clear qs
            refine RG.takeF 0 (oi := ⟨some 70, _, _, _, _, _⟩) (v := ?_) rfl (by kernel_rfl) (by kernel_rfl) (by kernel_rfl) (by kernel_rfl) (fun _ _ _ h => h) (Or.inl ⟨by rfl, ?hyLzy0⟩) hS4 ?restLzy0
            case hyLzy0 => (intro W hW; (try dsimp only at hW); go_simp; try with_reducible rfl)
            try simp only [Act.put, List.setIfInBounds_toArray, List.set_cons_zero, List.set_cons_succ]
            refine RG.takeF 2 (oi := ⟨some 72, _, _, _, _, _⟩) (v := ?_) rfl (by kernel_rfl) (by kernel_rfl) (by kernel_rfl) (by kernel_rfl) (fun _ _ _ h => h) (Or.inl ⟨by rfl, ?hyLzy2⟩) hS4 ?restLzy2
            case hyLzy2 => (intro W hW; (try dsimp only at hW); go_simp; try with_reducible rfl)
            try simp only [Act.put, List.setIfInBounds_toArray, List.set_cons_zero, List.set_cons_succ]
            refine RG.takeF 3 (oi := ⟨some 73, _, _, _, _, _⟩) (v := ?_) rfl (by kernel_rfl) (by kernel_rfl) (by kernel_rfl) (by kernel_rfl) (fun _ _ _ h => h) (Or.inl ⟨by rfl, ?hyLzy3⟩) hS4 ?restLzy3
            case hyLzy3 => (intro W hW; (try dsimp only at hW); go_simp; try with_reducible rfl)
            try simp only [Act.put, List.setIfInBounds_toArray, List.set_cons_zero, List.set_cons_succ]
            refine RG.takeF 4 (oi := ⟨some 74, _, _, _, _, _⟩) (v := ?_) rfl (by kernel_rfl) (by kernel_rfl) (by kernel_rfl) (by kernel_rfl) (fun _ _ _ h => h) (Or.inl ⟨by rfl, ?hyLzy4⟩) hS4 ?restLzy4
            case hyLzy4 => (intro W hW; (try dsimp only at hW); go_simp; try with_reducible rfl)
            try simp only [Act.put, List.setIfInBounds_toArray, List.set_cons_zero, List.set_cons_succ]
            refine RG.takeF 5 (oi := ⟨some 75, _, _, _, _, _⟩) (v := ?_) rfl (by kernel_rfl) (by kernel_rfl) (by kernel_rfl) (by kernel_rfl) (fun _ _ _ h => h) (Or.inl ⟨by rfl, ?hyLzy5⟩) hS4 ?restLzy5
            case hyLzy5 => (intro W hW; (try dsimp only at hW); go_simp; try with_reducible rfl)
            try simp only [Act.put, List.setIfInBounds_toArray, List.set_cons_zero, List.set_cons_succ]
            refine RG.takeF 6 (oi := ⟨some 76, _, _, _, _, _⟩) (v := ?_) rfl (by kernel_rfl) (by kernel_rfl) (by kernel_rfl) (by kernel_rfl) (fun _ _ _ h => h) (Or.inl ⟨by rfl, ?hyLzy6⟩) hS4 ?restLzy6
            case hyLzy6 => (intro W hW; (try dsimp only at hW); go_simp; try with_reducible rfl)
            try simp only [Act.put, List.setIfInBounds_toArray, List.set_cons_zero, List.set_cons_succ]
            refine RG.takeF 7 (oi := ⟨some 77, _, _, _, _, _⟩) (v := ?_) rfl (by kernel_rfl) (by kernel_rfl) (by kernel_rfl) (by kernel_rfl) (fun _ _ _ h => h) (Or.inl ⟨by rfl, ?hyLzy7⟩) hS4 ?restLzy7
            case hyLzy7 => (intro W hW; (try dsimp only at hW); go_simp; try with_reducible rfl)
            try simp only [Act.put, List.setIfInBounds_toArray, List.set_cons_zero, List.set_cons_succ]
            refine RG.takeF 8 (oi := ⟨some 78, _, _, _, _, _⟩) (v := ?_) rfl (by kernel_rfl) (by kernel_rfl) (by kernel_rfl) (by kernel_rfl) (fun _ _ _ h => h) (Or.inl ⟨by rfl, ?hyLzy8⟩) hS4 ?restLzy8
            case hyLzy8 => (intro W hW; (try dsimp only at hW); go_simp; try with_reducible rfl)
            try simp only [Act.put, List.setIfInBounds_toArray, List.set_cons_zero, List.set_cons_succ]
            refine RG.oneF 1 (by kernel_rfl) (by decide) ?_
            refine RG.wpOp_wanted rfl (by rfl) fun K hK => ?_
            go_simp
            with_reducible refine (HO.out _ _).mono ?_
            rintro e w5 ⟨rfl, hb⟩
            have hS5 : Chg (fun b => b = w.heap.size + 1 ∨ b = w.heap.size + 1 + 1) wr w5 := hS4.trans (Chg.ofBelow hb) (fun b _ h => h)
            have hBr5 := hBr.trans (hb.mono hBr.size)
            have HB5 := Lib.hid (HBR.out.trans (hBr5.mono HBR.out.size))
            have HT5 := Lib.hid (HTR.out.below hBr5)
            clear hb hBr5
            refine hK _ _ ⟨hS5, ?_⟩
            clear hK K
            try simp only [Act.put, List.setIfInBounds_toArray, List.set_cons_zero, List.set_cons_succ]
            have a0 := HT5.out.h4.cell 0 _ rfl
            have f0 := HT5.out.h4.frozen 0
            have a1 := HT5.out.h4.cell 1 _ rfl
            have f1 := HT5.out.h4.frozen 1
            have a2 := HT5.out.h4.cell 2 _ rfl
            have f2 := HT5.out.h4.frozen 2
            have b0 := HT5.out.h5.cell 0 _ rfl
            have g0 := HT5.out.h5.frozen 0
            have b1 := HT5.out.h5.cell 1 _ rfl
            have g1 := HT5.out.h5.frozen 1
            have b2 := HT5.out.h5.cell 2 _ rfl
            have g2 := HT5.out.h5.frozen 2
            have hne45 : w.heap.size + 1 + 1 ≠ w.heap.size + 1 := by omega
            refine RG.oneF 9 (by kernel_rfl) (by decide) ?_
            refine RG.wpOp_wanted rfl (by rfl) fun K hK => ?_
            go_simp
            refine hK _ _ ⟨((hS5.setCell (a := ⟨w.heap.size + 1, 0, none⟩) (fun _ => .inl rfl) _).setCell (a := ⟨w.heap.size + 1, 1, none⟩) (fun _ => .inl rfl) _).setCell (a := ⟨w.heap.size + 1, 2, none⟩) (fun _ => .inl rfl) _, ?_⟩
            clear hK K
            try simp only [Act.put, List.setIfInBounds_toArray, List.set_cons_zero, List.set_cons_succ]
            refine RG.oneF 10 (by kernel_rfl) (by decide) ?_
            refine RG.wpOp_wanted rfl (by rfl) fun K hK => ?_
            go_simp
            refine hK _ _ ⟨(((((hS5.setCell (a := ⟨w.heap.size + 1, 0, none⟩) (fun _ => .inl rfl) _).setCell (a := ⟨w.heap.size + 1, 1, none⟩) (fun _ => .inl rfl) _).setCell (a := ⟨w.heap.size + 1, 2, none⟩) (fun _ => .inl rfl) _).setCell (a := ⟨w.heap.size + 1 + 1, 0, none⟩) (fun _ => .inr rfl) _).setCell (a := ⟨w.heap.size + 1 + 1, 1, none⟩) (fun _ => .inr rfl) _).setCell (a := ⟨w.heap.size + 1 + 1, 2, none⟩) (fun _ => .inr rfl) _, ?_⟩
            clear hK K
            try simp only [Act.put, List.setIfInBounds_toArray, List.set_cons_zero, List.set_cons_succ]
            refine RG.lastF (by kernel_rfl) (by kernel_rfl) ?_
            refine RG.wpOp_wanted rfl (by rfl) fun K hK => ?_
            go_simp
            refine hK _ _ ?_
            clear hK K
            try simp only [Act.put, List.setIfInBounds_toArray, List.set_cons_zero, List.set_cons_succ]
            clear q4 u0 u1 u2
            go_wp2
            refine bodyPost_ret (results_val3 (x := strV kj) (y := ⟨u_1, u_2, u_3⟩) rfl _ rfl rfl rfl ((((((HT5.out.h4.setSame 0 _).setSame 1 _).setSame 2 _).setOther (Ne.symm hne45) _).setOther (Ne.symm hne45) _).setOther (Ne.symm hne45) _) ((((((HT5.out.h5.setOther hne45 _).setOther hne45 _).setOther hne45 _).setSame 0 _).setSame 1 _).setSame 2 _)) rfl ⟨rfl, ?_⟩
            exact (((((HB5.out.setCell (by simp) _).setCell (by simp) _).setCell (by simp) _).setCell (by simp; omega) _).setCell (by simp; omega) _).setCell (by simp; omega) _
        · exact absurd (Nat.zero_le j) hat
      · obtain rfl : j = m := by omega
        have hR := hre.out.2
        rw [rfirst_end (by rw [hlr, ← EM.out]; omega)] at hR
        cases hR
        have hne45 : w.heap.size + 1 + 1 ≠ w.heap.size + 1 := by omega
        have a0 := HTR.out.h4.cell 0 _ rfl
        have f0 := HTR.out.h4.frozen 0
        have a1 := HTR.out.h4.cell 1 _ rfl
        have f1 := HTR.out.h4.frozen 1
        have a2 := HTR.out.h4.cell 2 _ rfl
        have f2 := HTR.out.h4.frozen 2
        have b0 := HTR.out.h5.cell 0 _ rfl
        have g0 := HTR.out.h5.frozen 0
        have b1 := HTR.out.h5.cell 1 _ rfl
        have g1 := HTR.out.h5.frozen 1
        have b2 := HTR.out.h5.cell 2 _ rfl
        have g2 := HTR.out.h5.frozen 2
        go_wp2_with fail
        refine bodyPost_ret (results_val3 (x := Val.nil) (y := Val.nil) rfl _ rfl rfl rfl ((((((HTR.out.h4.setSame 0 _).setSame 1 _).setSame 2 _).setOther (Ne.symm hne45) _).setOther (Ne.symm hne45) _).setOther (Ne.symm hne45) _) ((((((HTR.out.h5.setOther hne45 _).setOther hne45 _).setOther hne45 _).setSame 0 _).setSame 1 _).setSame 2 _)) rfl ⟨rfl, ?_⟩
        exact (((((HBR.out.setCell (by simp) _).setCell (by simp) _).setCell (by simp) _).setCell (by simp; omega) _).setCell (by simp; omega) _).setCell (by simp; omega) _
  · have hkn : (x.k != 0) = true := by simp [hk]
    by_cases hit : ∃ j0, slotX T i x = some j0
    · obtain ⟨j0, hj0⟩ := hit
      have hk3 : x.k = 3 := by
        unfold slotX at hj0
        by_cases h3 : x.k = 3
        · exact h3
        · rw [if_neg h3] at hj0; cases hj0
      have hsl : slotOf (ksOf T i) x.s = some j0 := by unfold slotX at hj0; rw [if_pos hk3] at hj0; exact hj0
      rw [hj0] at HSL
      have hM : nextM L x = (firstLive (L.drop (j0 + 1)), 0) := by
        obtain ⟨e1, e2⟩ := hasK_str h.len h.nd hk3
        obtain ⟨v, hv, _⟩ := e2 j0 hsl
        have e1 : hasK (strPairs (ksOf T i) S) x = true := by rw [e1, hsl]; rfl
        unfold nextM
        rw [if_neg hk, hL, if_pos e1, (keyV_str hk3).1, rbehind (by rw [← hL]; exact HOK.out) (strPairs_at (slotOf_get hsl) hv)]
      rw [hM]
      obtain ⟨⟨R1, R2⟩, hR⟩ : ∃ R, firstLive (L.drop (j0 + 1)) = R := ⟨_, rfl⟩
      rw [hR]
      have HL := Lib.hid hR
      have hj0l : j0 < 64 := by have := (List.getElem?_eq_some_iff.1 (slotOf_get hsl)).1; have := h.le64; omega
      obtain ⟨x1, x2, x3⟩ := x
      clear hM hR hx h ht hL hkm hj0 hsl hk hk3 hks
      go_enter Try.func125, Try.ntmps125
      go_upto_region 9 with (go_at_call 123; (with_reducible refine (HSL.out _ HB0.out).mono ?_); rintro e w1 ⟨rfl, hb⟩; have HB1 := Lib.hid (HB0.out.trans (hb.mono HB0.out.size)); have HT1 := Lib.hid (HTW.out.below hb); clear hb)
      clear c2
      have hB0 : Below w1.heap.size w1 ({ w1 with drawn := w1.drawn + 1 } : World) := ⟨rfl, rfl, rfl, Nat.le_refl _, fun _ _ => rfl⟩
      refine wp_region_held (S := Below w1.heap.size w1) (by kernel_rfl) ?_
      have hS0 := hB0
      generalize ({ w1 with drawn := w1.drawn + 1 } : World) = w2 at hS0 hB0 ⊢
      have q1 : ∀ W, Below w1.heap.size w1 W → W.cell? ⟨tb, 1, none⟩ = some tp := fun W hW => (HSH.out.below (HB1.out.trans (hW.mono HB1.out.size))).hd.cell 1 _ rfl
      have q3 : ∀ W, Below w1.heap.size w1 W → W.cell? ⟨tb, 3, none⟩ = some (.int .i64 (i : Nat)) := fun W hW => (HSH.out.below (HB1.out.trans (hW.mono HB1.out.size))).hd.cell 3 _ rfl
      refine RG.takeH 0 (oi := ⟨some 41, _, _, _, _, _⟩) (v := ?_) rfl (by kernel_rfl) (by kernel_rfl) (by kernel_rfl) (fun _ _ _ h => h) (Or.inl ⟨by rfl, ?hyLo0⟩) hS0 ?restLo0
      case hyLo0 => (intro W hW; (try dsimp only at hW); go_simp; try with_reducible rfl)
      try simp only [Act.put, List.setIfInBounds_toArray, List.set_cons_zero, List.set_cons_succ]
      refine RG.takeH 1 (oi := ⟨some 42, _, _, _, _, _⟩) (v := ?_) rfl (by kernel_rfl) (by kernel_rfl) (by kernel_rfl) (fun _ _ _ h => h) (Or.inl ⟨by rfl, ?hyLo1⟩) hS0 ?restLo1
      case hyLo1 => (intro W hW; (try dsimp only at hW); go_simp; try with_reducible rfl)
      try simp only [Act.put, List.setIfInBounds_toArray, List.set_cons_zero, List.set_cons_succ]
      refine RG.takeH 2 (oi := ⟨some 43, _, _, _, _, _⟩) (v := ?_) rfl (by kernel_rfl) (by kernel_rfl) (by kernel_rfl) (fun _ _ _ h => h) (Or.inl ⟨by rfl, ?hyLo2⟩) hS0 ?restLo2
      case hyLo2 => (intro W hW; (try dsimp only at hW); go_simp; try with_reducible rfl)
      try simp only [Act.put, List.setIfInBounds_toArray, List.set_cons_zero, List.set_cons_succ]
      refine RG.takeH 3 (oi := ⟨some 44, _, _, _, _, _⟩) (v := ?_) rfl (by kernel_rfl) (by kernel_rfl) (by kernel_rfl) (fun _ _ _ h => h) (Or.inl ⟨by rfl, ?hyLo3⟩) hS0 ?restLo3
      case hyLo3 => (intro W hW; (try dsimp only at hW); go_simp; try with_reducible rfl)
      try simp only [Act.put, List.setIfInBounds_toArray, List.set_cons_zero, List.set_cons_succ]
      refine RG.takeH 4 (oi := ⟨some 45, _, _, _, _, _⟩) (v := ?_) rfl (by kernel_rfl) (by kernel_rfl) (by kernel_rfl) (fun _ _ _ h => h) (Or.inl ⟨by rfl, ?hyLo4⟩) hS0 ?restLo4
      case hyLo4 => (intro W hW; (try dsimp only at hW); go_simp; try with_reducible rfl)
      try simp only [Act.put, List.setIfInBounds_toArray, List.set_cons_zero, List.set_cons_succ]
      refine RG.takeH 5 (oi := ⟨some 46, _, _, _, _, _⟩) (v := ?_) rfl (by kernel_rfl) (by kernel_rfl) (by kernel_rfl) (fun _ _ _ h => h) (Or.inl ⟨by rfl, ?hyLo5⟩) hS0 ?restLo5
      case hyLo5 => (intro W hW; (try dsimp only at hW); go_simp; try with_reducible rfl)
      try simp only [Act.put, List.setIfInBounds_toArray, List.set_cons_zero, List.set_cons_succ]
      refine RG.takeH 6 (oi := ⟨some 47, _, _, _, _, _⟩) (v := ?_) rfl (by kernel_rfl) (by kernel_rfl) (by kernel_rfl) (fun _ _ _ h => h) (Or.inl ⟨by rfl, ?hyLo6⟩) hS0 ?restLo6
      case hyLo6 => (intro W hW; (try dsimp only at hW); go_simp; try with_reducible rfl)
      try simp only [Act.put, List.setIfInBounds_toArray, List.set_cons_zero, List.set_cons_succ]
      refine RG.takeH 7 (oi := ⟨some 48, _, _, _, _, _⟩) (v := ?_) rfl (by kernel_rfl) (by kernel_rfl) (by kernel_rfl) (fun _ _ _ h => h) (Or.inl ⟨by rfl, ?hyLo7⟩) hS0 ?restLo7
      case hyLo7 => (intro W hW; (try dsimp only at hW); go_simp; try with_reducible rfl)
      try simp only [Act.put, List.setIfInBounds_toArray, List.set_cons_zero, List.set_cons_succ]
      refine RG.takeH 10 (oi := ⟨some 51, _, _, _, _, _⟩) (v := ?_) rfl (by kernel_rfl) (by kernel_rfl) (by kernel_rfl) (fun _ _ _ h => h) (Or.inl ⟨by rfl, ?hyLo10⟩) hS0 ?restLo10
      case hyLo10 => (intro W hW; (try dsimp only at hW); go_simp; try with_reducible rfl)
      try simp only [Act.put, List.setIfInBounds_toArray, List.set_cons_zero, List.set_cons_succ]
      refine RG.one (i := 8) (by kernel_rfl) ?_
      refine RG.wpOp_wanted rfl (by rfl) fun K hK => ?_
      go_simp
      with_reducible refine (HKS.out _ (HB1.out.trans (hB0.mono HB1.out.size))).mono ?_
      rintro e w3 ⟨kv, rfl, hkv, hown, hb⟩
      have hS3 : Below w1.heap.size w1 w3 := hS0.trans (hb.mono hS0.size)
      have HB3 := Lib.hid (HB1.out.trans (hS3.mono HB1.out.size))
      have HT3 := Lib.hid (HT1.out.below hS3)
      have HKV := Lib.hid hkv
      clear hb hown
      obtain ⟨ka, kc, hkve, hkc1, hkc2⟩ := hkv.form
      clear hkv
      subst hkve
      refine hK _ _ ⟨hS3, ?_⟩
      clear hK K
      try simp only [Act.put, List.setIfInBounds_toArray, List.set_cons_zero, List.set_cons_succ]
      refine RG.takeH 9 (oi := ⟨some 50, _, _, _, _, _⟩) (v := ?_) rfl (by kernel_rfl) (by kernel_rfl) (by kernel_rfl) (fun _ _ _ h => h) (Or.inl ⟨by rfl, ?hyLox9⟩) hS3 ?restLox9
      case hyLox9 => (intro W hW; (try dsimp only at hW); go_simp; try with_reducible rfl)
      try simp only [Act.put, List.setIfInBounds_toArray, List.set_cons_zero, List.set_cons_succ]
      refine wpAnyH_done (by kernel_rfl) ?_ _
      clear q1 q3
      obtain ⟨m, hm⟩ : ∃ m, m = ks.length := ⟨_, rfl⟩
      have EM := Lib.hid hm
      rw [← hm] at hkc1 h64 ⊢
      clear hm
      go_wp2_with fail
      go_loopw [51] (fun ii wr => ∃ j : Nat, j ≤ m ∧ ii = .int .i64 j ∧ Hid (Below w3.heap.size w3 wr ∧ firstLive (L.drop (max (j0 + 1) j)) = (R1, R2))) (fun ii _ => m - (intOf ii).toNat)
      case atStart => exact ⟨0, Nat.zero_le _, rfl, Lib.hid ⟨Below.refl _ _, by rw [Nat.max_zero]; exact HL.out⟩⟩
      case round =>
        obtain ⟨j, hj, rfl, hre⟩ := hrel
        have HBR := Lib.hid (HB3.out.trans (hre.out.1.mono HB3.out.size))
        have HTR := Lib.hid (HT3.out.below hre.out.1)
        by_cases hlt : j < m
        · have hjl : j < ks.length := by rw [← EM.out]; exact hlt
          obtain ⟨kj, hkj⟩ : ∃ k, ks[j]? = some k := ⟨_, List.getElem?_eq_getElem hjl⟩
          obtain ⟨uj, huj⟩ : ∃ u, S[j]? = some u := ⟨_, List.getElem?_eq_getElem (by omega)⟩
          have HLJ := Lib.hid (HLAT.out j kj uj hkj huj)
          obtain ⟨kg, kcap, hke, hkcell⟩ := (HKV.out.below hre.out.1).cell hkj
          cases hke
          obtain ⟨g, cap, hge, hcl⟩ := HCS.out _ HBR.out j uj huj
          cases hge
          have c4 := (HSH.out.below HBR.out).hd.cell 4 _ rfl
          have u0 := hcl 0 _ (by decide) rfl
          have u1 := hcl 1 _ (by decide) rfl
          have u2 := hcl 2 _ (by decide) rfl
          rw [Nat.add_zero] at u0
          have hSm : S.length = m := by rw [hSl, EM.out]
          rw [hSm] at c4 hsc1
          have hj0' : (0 : Int) ≤ (j : Int) := by omega
          have hj1 : (j : Int) < (m : Int) := by omega
          have HSL2 := Lib.hid hSm
          have HSJ := Lib.hid huj
          clear hcl hkj huj hSm
          obtain ⟨u_1, u_2, u_3⟩ := uj
          by_cases hat : (j0 + 1) ≤ j
          · have hat' : (((j0 : Int) + 1) ≤ (j : Int)) := by omega
            by_cases hv : u_1 = 0
            · have HN := Lib.hid hv
              subst hv
              go_wp2_with fail
              go_roundw
              case rel => exact ⟨j + 1, by omega, by go_num, Lib.hid ⟨hre.out.1, by
                have h1 := hre.out.2
                rw [Nat.max_eq_right hat] at h1
                rw [Nat.max_eq_right (by omega), rfirst_skip HLJ.out rfl]; exact h1⟩⟩
              case measure => simp [intOf]; omega
            · have hR := hre.out.2
              rw [Nat.max_eq_right hat, rfirst_hit HLJ.out hv] at hR
              cases hR
              have hv' : (u_1 != 0) = true := by simp [hv]
              go_upto_region 13 with (fail)
              clear c4 u0 u1 u2 hkcell
              have hBr : Below wr.heap.size wr ({ wr with drawn := wr.drawn + 1 } : World) := ⟨rfl, rfl, rfl, Nat.le_refl _, fun _ _ => rfl⟩
              refine RG.region_F (Chg (fun b => b = w.heap.size + 1 ∨ b = w.heap.size + 1 + 1) wr) 11 (by kernel_rfl) ?_
              have hS4 : Chg (fun b => b = w.heap.size + 1 ∨ b = w.heap.size + 1 + 1) wr ({ wr with drawn := wr.drawn + 1 } : World) := Chg.ofBelow hBr
              generalize ({ wr with drawn := wr.drawn + 1 } : World) = w4 at hS4 hBr ⊢
              have q4 : ∀ W, Chg (fun b => b = w.heap.size + 1 ∨ b = w.heap.size + 1 + 1) wr W → W.cell? ⟨tb, 4, none⟩ = some (.slice (some ⟨g, 0, none⟩) m sc) := fun W hW => by
                have ht := HSH.out.hd.lt
                rw [← HSL2.out]
                exact ((HSH.out.below HBR.out).hd.of (hW.block _ (HSH.out.below HBR.out).hd.lt (fun h => by omega))).cell 4 _ rfl
              have qs : ∀ W, Chg (fun b => b = w.heap.size + 1 ∨ b = w.heap.size + 1 + 1) wr W → W.heap[g]? = wr.heap[g]? := fun W hW => by
                have hg : g < w.heap.size := (HSH.out.slo.lt g rfl).2
                exact hW.block g (Nat.lt_of_lt_of_le hg HBR.out.size) (fun h => by omega)
              have u0 : ∀ W, Chg (fun b => b = w.heap.size + 1 ∨ b = w.heap.size + 1 + 1) wr W → W.cell? ⟨g, j * 3, none⟩ = some (.int .i64 u_1) := fun W hW => by
                obtain ⟨g', cap', hge, hcl⟩ := HCS.out _ HBR.out j _ (HSJ.out)
                cases hge
                exact (World.cell?_of_block (qs W hW)).trans (by have := hcl 0 _ (by decide) rfl; rwa [Nat.add_zero] at this)
              have u1 : ∀ W, Chg (fun b => b = w.heap.size + 1 ∨ b = w.heap.size + 1 + 1) wr W → W.cell? ⟨g, j * 3 + 1, none⟩ = some (.int .i64 u_2) := fun W hW => by
                obtain ⟨g', cap', hge, hcl⟩ := HCS.out _ HBR.out j _ (HSJ.out)
                cases hge
                exact (World.cell?_of_block (qs W hW)).trans (hcl 1 _ (by decide) rfl)
              have u2 : ∀ W, Chg (fun b => b = w.heap.size + 1 ∨ b = w.heap.size + 1 + 1) wr W → W.cell? ⟨g, j * 3 + 2, none⟩ = some (.string u_3) := fun W hW => by
                obtain ⟨g', cap', hge, hcl⟩ := HCS.out _ HBR.out j _ (HSJ.out)
                cases hge
                exact (World.cell?_of_block (qs W hW)).trans (hcl 2 _ (by decide) rfl)
              clear qs
              refine RG.takeF 0 (oi := ⟨some 70, _, _, _, _, _⟩) (v := ?_) rfl (by kernel_rfl) (by kernel_rfl) (by kernel_rfl) (by kernel_rfl) (fun _ _ _ h => h) (Or.inl ⟨by rfl, ?hyLoy0⟩) hS4 ?restLoy0
              case hyLoy0 => (intro W hW; (try dsimp only at hW); go_simp; try with_reducible rfl)
              try simp only [Act.put, List.setIfInBounds_toArray, List.set_cons_zero, List.set_cons_succ]
              refine RG.takeF 2 (oi := ⟨some 72, _, _, _, _, _⟩) (v := ?_) rfl (by kernel_rfl) (by kernel_rfl) (by kernel_rfl) (by kernel_rfl) (fun _ _ _ h => h) (Or.inl ⟨by rfl, ?hyLoy2⟩) hS4 ?restLoy2
              case hyLoy2 => (intro W hW; (try dsimp only at hW); go_simp; try with_reducible rfl)
              try simp only [Act.put, List.setIfInBounds_toArray, List.set_cons_zero, List.set_cons_succ]
              refine RG.takeF 3 (oi := ⟨some 73, _, _, _, _, _⟩) (v := ?_) rfl (by kernel_rfl) (by kernel_rfl) (by kernel_rfl) (by kernel_rfl) (fun _ _ _ h => h) (Or.inl ⟨by rfl, ?hyLoy3⟩) hS4 ?restLoy3
              case hyLoy3 => (intro W hW; (try dsimp only at hW); go_simp; try with_reducible rfl)
              try simp only [Act.put, List.setIfInBounds_toArray, List.set_cons_zero, List.set_cons_succ]
              refine RG.takeF 4 (oi := ⟨some 74, _, _, _, _, _⟩) (v := ?_) rfl (by kernel_rfl) (by kernel_rfl) (by kernel_rfl) (by kernel_rfl) (fun _ _ _ h => h) (Or.inl ⟨by rfl, ?hyLoy4⟩) hS4 ?restLoy4
              case hyLoy4 => (intro W hW; (try dsimp only at hW); go_simp; try with_reducible rfl)
              try simp only [Act.put, List.setIfInBounds_toArray, List.set_cons_zero, List.set_cons_succ]
              refine RG.takeF 5 (oi := ⟨some 75, _, _, _, _, _⟩) (v := ?_) rfl (by kernel_rfl) (by kernel_rfl) (by kernel_rfl) (by kernel_rfl) (fun _ _ _ h => h) (Or.inl ⟨by rfl, ?hyLoy5⟩) hS4 ?restLoy5
              case hyLoy5 => (intro W hW; (try dsimp only at hW); go_simp; try with_reducible rfl)
              try simp only [Act.put, List.setIfInBounds_toArray, List.set_cons_zero, List.set_cons_succ]
              refine RG.takeF 6 (oi := ⟨some 76, _, _, _, _, _⟩) (v := ?_) rfl (by kernel_rfl) (by kernel_rfl) (by kernel_rfl) (by kernel_rfl) (fun _ _ _ h => h) (Or.inl ⟨by rfl, ?hyLoy6⟩) hS4 ?restLoy6
              case hyLoy6 => (intro W hW; (try dsimp only at hW); go_simp; try with_reducible rfl)
              try simp only [Act.put, List.setIfInBounds_toArray, List.set_cons_zero, List.set_cons_succ]
              refine RG.takeF 7 (oi := ⟨some 77, _, _, _, _, _⟩) (v := ?_) rfl (by kernel_rfl) (by kernel_rfl) (by kernel_rfl) (by kernel_rfl) (fun _ _ _ h => h) (Or.inl ⟨by rfl, ?hyLoy7⟩) hS4 ?restLoy7
              case hyLoy7 => (intro W hW; (try dsimp only at hW); go_simp; try with_reducible rfl)
              try simp only [Act.put, List.setIfInBounds_toArray, List.set_cons_zero, List.set_cons_succ]
              refine RG.takeF 8 (oi := ⟨some 78, _, _, _, _, _⟩) (v := ?_) rfl (by kernel_rfl) (by kernel_rfl) (by kernel_rfl) (by kernel_rfl) (fun _ _ _ h => h) (Or.inl ⟨by rfl, ?hyLoy8⟩) hS4 ?restLoy8
              case hyLoy8 => (intro W hW; (try dsimp only at hW); go_simp; try with_reducible rfl)
              try simp only [Act.put, List.setIfInBounds_toArray, List.set_cons_zero, List.set_cons_succ]
              refine RG.oneF 1 (by kernel_rfl) (by decide) ?_
              refine RG.wpOp_wanted rfl (by rfl) fun K hK => ?_
              go_simp
              with_reducible refine (HO.out _ _).mono ?_
              rintro e w5 ⟨rfl, hb⟩
              have hS5 : Chg (fun b => b = w.heap.size + 1 ∨ b = w.heap.size + 1 + 1) wr w5 := hS4.trans (Chg.ofBelow hb) (fun b _ h => h)
              have hBr5 := hBr.trans (hb.mono hBr.size)
              have HB5 := Lib.hid (HBR.out.trans (hBr5.mono HBR.out.size))
              have HT5 := Lib.hid (HTR.out.below hBr5)
              clear hb hBr5
              refine hK _ _ ⟨hS5, ?_⟩
              clear hK K
              try simp only [Act.put, List.setIfInBounds_toArray, List.set_cons_zero, List.set_cons_succ]
              have a0 := HT5.out.h4.cell 0 _ rfl
              have f0 := HT5.out.h4.frozen 0
              have a1 := HT5.out.h4.cell 1 _ rfl
              have f1 := HT5.out.h4.frozen 1
              have a2 := HT5.out.h4.cell 2 _ rfl
              have f2 := HT5.out.h4.frozen 2
              have b0 := HT5.out.h5.cell 0 _ rfl
              have g0 := HT5.out.h5.frozen 0
              have b1 := HT5.out.h5.cell 1 _ rfl
              have g1 := HT5.out.h5.frozen 1
              have b2 := HT5.out.h5.cell 2 _ rfl
              have g2 := HT5.out.h5.frozen 2
              have hne45 : w.heap.size + 1 + 1 ≠ w.heap.size + 1 := by omega
              refine RG.oneF 9 (by kernel_rfl) (by decide) ?_
              refine RG.wpOp_wanted rfl (by rfl) fun K hK => ?_
              go_simp
              refine hK _ _ ⟨((hS5.setCell (a := ⟨w.heap.size + 1, 0, none⟩) (fun _ => .inl rfl) _).setCell (a := ⟨w.heap.size + 1, 1, none⟩) (fun _ => .inl rfl) _).setCell (a := ⟨w.heap.size + 1, 2, none⟩) (fun _ => .inl rfl) _, ?_⟩
              clear hK K
              try simp only [Act.put, List.setIfInBounds_toArray, List.set_cons_zero, List.set_cons_succ]
              refine RG.oneF 10 (by kernel_rfl) (by decide) ?_
              refine RG.wpOp_wanted rfl (by rfl) fun K hK => ?_
              go_simp
              refine hK _ _ ⟨(((((hS5.setCell (a := ⟨w.heap.size + 1, 0, none⟩) (fun _ => .inl rfl) _).setCell (a := ⟨w.heap.size + 1, 1, none⟩) (fun _ => .inl rfl) _).setCell (a := ⟨w.heap.size + 1, 2, none⟩) (fun _ => .inl rfl) _).setCell (a := ⟨w.heap.size + 1 + 1, 0, none⟩) (fun _ => .inr rfl) _).setCell (a := ⟨w.heap.size + 1 + 1, 1, none⟩) (fun _ => .inr rfl) _).setCell (a := ⟨w.heap.size + 1 + 1, 2, none⟩) (fun _ => .inr rfl) _, ?_⟩
              clear hK K
              try simp only [Act.put, List.setIfInBounds_toArray, List.set_cons_zero, List.set_cons_succ]
              refine RG.lastF (by kernel_rfl) (by kernel_rfl) ?_
              refine RG.wpOp_wanted rfl (by rfl) fun K hK => ?_
              go_simp
              refine hK _ _ ?_
              clear hK K
              try simp only [Act.put, List.setIfInBounds_toArray, List.set_cons_zero, List.set_cons_succ]
              clear q4 u0 u1 u2
              go_wp2
              refine bodyPost_ret (results_val3 (x := strV kj) (y := ⟨u_1, u_2, u_3⟩) rfl _ rfl rfl rfl ((((((HT5.out.h4.setSame 0 _).setSame 1 _).setSame 2 _).setOther (Ne.symm hne45) _).setOther (Ne.symm hne45) _).setOther (Ne.symm hne45) _) ((((((HT5.out.h5.setOther hne45 _).setOther hne45 _).setOther hne45 _).setSame 0 _).setSame 1 _).setSame 2 _)) rfl ⟨rfl, ?_⟩
              exact (((((HB5.out.setCell (by simp) _).setCell (by simp) _).setCell (by simp) _).setCell (by simp; omega) _).setCell (by simp; omega) _).setCell (by simp; omega) _
          · have hat' : ((j : Int) < (j0 : Int) + 1) := by omega
            go_wp2_with fail
            go_roundw
            case rel => exact ⟨j + 1, by omega, by go_num, Lib.hid ⟨hre.out.1, by
              have h1 := hre.out.2
              rw [Nat.max_eq_left (by omega)] at h1
              rw [Nat.max_eq_left (by omega)]; exact h1⟩⟩
            case measure => simp [intOf]; omega
        · obtain rfl : j = m := by omega
          have hR := hre.out.2
          rw [rfirst_end (by rw [hlr, ← EM.out]; omega)] at hR
          cases hR
          have hne45 : w.heap.size + 1 + 1 ≠ w.heap.size + 1 := by omega
          have a0 := HTR.out.h4.cell 0 _ rfl
          have f0 := HTR.out.h4.frozen 0
          have a1 := HTR.out.h4.cell 1 _ rfl
          have f1 := HTR.out.h4.frozen 1
          have a2 := HTR.out.h4.cell 2 _ rfl
          have f2 := HTR.out.h4.frozen 2
          have b0 := HTR.out.h5.cell 0 _ rfl
          have g0 := HTR.out.h5.frozen 0
          have b1 := HTR.out.h5.cell 1 _ rfl
          have g1 := HTR.out.h5.frozen 1
          have b2 := HTR.out.h5.cell 2 _ rfl
          have g2 := HTR.out.h5.frozen 2
          go_wp2_with fail
          refine bodyPost_ret (results_val3 (x := Val.nil) (y := Val.nil) rfl _ rfl rfl rfl ((((((HTR.out.h4.setSame 0 _).setSame 1 _).setSame 2 _).setOther (Ne.symm hne45) _).setOther (Ne.symm hne45) _).setOther (Ne.symm hne45) _) ((((((HTR.out.h5.setOther hne45 _).setOther hne45 _).setOther hne45 _).setSame 0 _).setSame 1 _).setSame 2 _)) rfl ⟨rfl, ?_⟩
          exact (((((HBR.out.setCell (by simp) _).setCell (by simp) _).setCell (by simp) _).setCell (by simp; omega) _).setCell (by simp; omega) _).setCell (by simp; omega) _
    · have hsl : slotX T i x = none := by
        cases he : slotX T i x with
        | none => rfl
        | some j => exact absurd ⟨j, he⟩ hit
      rw [hsl] at HSL
      have hM : nextM L x = ((Val.nil, Val.nil), 15) := by
        have : hasK L x = false := by
          rw [hL]
          by_cases h3 : x.k = 3
          · have e : slotOf (ksOf T i) x.s = none := by unfold slotX at hsl; rw [if_pos h3] at hsl; exact hsl
            rw [(hasK_str h.len h.nd h3).1, e]; rfl
          · exact hasK_other h3
        unfold nextM
        rw [if_neg hk, this]; rfl
      rw [hM]
      have hne45 : w.heap.size + 1 + 1 ≠ w.heap.size + 1 := by omega
      obtain ⟨x1, x2, x3⟩ := x
      clear hM hx h ht hL hkm hsl hit hk
      go_enter Try.func125, Try.ntmps125
      go_wp2_with (go_at_call 123; (with_reducible refine (HSL.out _ HB0.out).mono ?_); rintro e w1 ⟨rfl, hb⟩; have HB1 := Lib.hid (HB0.out.trans (hb.mono HB0.out.size)); have HT1 := Lib.hid (HTW.out.below hb); clear hb; have a0 := HT1.out.h4.cell 0 _ rfl; have f0 := HT1.out.h4.frozen 0; have a1 := HT1.out.h4.cell 1 _ rfl; have f1 := HT1.out.h4.frozen 1; have a2 := HT1.out.h4.cell 2 _ rfl; have f2 := HT1.out.h4.frozen 2; have b0 := HT1.out.h5.cell 0 _ rfl; have g0 := HT1.out.h5.frozen 0; have b1 := HT1.out.h5.cell 1 _ rfl; have g1 := HT1.out.h5.frozen 1; have b2 := HT1.out.h5.cell 2 _ rfl; have g2 := HT1.out.h5.frozen 2)
      refine bodyPost_ret (results_val3 (x := Val.nil) (y := Val.nil) rfl _ rfl rfl rfl ((((((HT1.out.h4.setSame 0 _).setSame 1 _).setSame 2 _).setOther (Ne.symm hne45) _).setOther (Ne.symm hne45) _).setOther (Ne.symm hne45) _) ((((((HT1.out.h5.setOther hne45 _).setOther hne45 _).setOther hne45 _).setSame 0 _).setSame 1 _).setSame 2 _)) rfl ⟨rfl, ?_⟩
      exact (((((HB1.out.setCell (by simp) _).setCell (by simp) _).setCell (by simp) _).setCell (by simp; omega) _).setCell (by simp; omega) _).setCell (by simp; omega) _
end
end Go.Proofs.Ytmjfmfelbmbniaa
