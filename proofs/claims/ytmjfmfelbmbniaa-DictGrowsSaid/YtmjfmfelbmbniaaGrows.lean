/- Layer 13: DictGrows. -/
import Derived.Test.YtmjfmfelbmbniaaGrowsM
namespace Go.Proofs.Ytmjfmfelbmbniaa
open Go.RowKit Go.Maps HK ShM
set_option linter.unusedVariables false
set_option linter.unusedSimpArgs false
theorem Dct.setPf {w0 w : World} {d i : Nat} {B : List (Nat × Val)} (h : Dct (fun _ => False) w0 w d ((List.range i).map pf) i B) (hi : i ≤ 100000) :
    Calls Try.prog 44 #[.pointer (some ⟨d, 0, none⟩), (kf i).v, (vf i).v] w fun e w' => e = .returned (.tuple #[.bool true, .int .i64 0]) ∧ Dct (fun _ => False) w0 w' d ((List.range (i + 1)).map pf) (i + 1) B := by
  have h1 := set_pf i
  have h2 := h.setTo (fun b h => h.elim) (by omega) (kf i) (vf i) (kf_size i hi) rfl true 0 h1.1 h1.2.1 h1.2.2
  exact h2
set_option maxHeartbeats 16000000 in
set_option maxRecDepth 20000 in
theorem grows_walk (n gap : Nat) (hn : n < 65536) (hg : gap < 256) (w : World) : Calls Try.prog 9 #[.int .u16 (n : Nat), .int .u8 (gap : Nat)] w fun e w' => e = .returned (.bool true) ∧ Below w.heap.size w w' := by
  have HAL := Lib.hid (fun (W : World) => dalive_calls W)
  have HI := Lib.hid (fun (n : Int) (W : World) => ofInt_calls n W)
  have HS := Lib.hid (fun (s : ByteArray) (W : World) => ofStr_calls s W)
  have hn0 : (0 : Int) ≤ (n : Int) := by omega
  have hg0 : (0 : Int) ≤ (gap : Int) := by omega
  obtain ⟨all, hall⟩ : ∃ all, all = n % 1500 := ⟨_, rfl⟩
  have halli : (n : Int) % 1500 = (all : Int) := by omega
  have hal : all < 1500 := by omega
  have HALLI := Lib.hid halli
  clear hall halli
  go_enter Try.func9, Try.ntmps9
  go_upto_region 4 with (first
    | (go_at_call 40; (with_reducible refine (HAL.out _).mono ?_); rintro e w1 ⟨rfl, hb⟩; have HB1 := Lib.hid hb; have HNW := Lib.hid (Dct.new (fun _ => False) w w1 hb (fun b h => h.elim) [] (fun p hp => by cases hp)); clear hb)
    | (go_at_call 42; (with_reducible refine HNW.out.mono ?_); rintro e w2 ⟨d, rfl, h1, _⟩; have HD := Lib.hid h1; clear h1))
  go_wp2_with fail
  rw [HALLI.out]
  go_loopw [27] (fun ii wr => ∃ i : Nat, i ≤ all ∧ ii = .int .i64 i ∧ Hid (Dct (fun _ => False) w wr d ((List.range i).map pf) i [])) (fun ii _ => all - (intOf ii).toNat)
  case atStart => exact ⟨0, Nat.zero_le _, rfl, Lib.hid HD.out⟩
  case round =>
    obtain ⟨i, hi, rfl, hre⟩ := hrel
    by_cases hlt : i < all
    · have hi0 : (0 : Int) ≤ (i : Int) := by omega
      have hi1 : (i : Int) < (all : Int) := by omega
      have HDG := Lib.hid (fun (W : World) => digits_calls (i * 7) (by omega) W)
      rw [show ((i * 7 : Nat) : Int) = (i : Int) * 7 by omega] at HDG
      by_cases hp : i % 2 = 1
      · have hpar : ((i : Int) % 2 == 1) = true := by simp; omega
        have hk : kf i = ⟨3, 0, digS (i * 7)⟩ := if_pos hp
        have HK := Lib.hid hk
        clear hp hk
        generalize digS (i * 7) = ds at *
        go_upto_region 11 with (first
          | (go_at_call 50; (with_reducible refine (HI.out _ _).mono ?_); rintro e w3 ⟨rfl, hb⟩; have HD3 := Lib.hid (hre.out.below hb); clear hb; have HD3' := Lib.hid (HD3.out.alloc ⟨2, (i : Int) * 7, Val.e⟩ w3.heap.size rfl))
          | (go_at_call 55; (with_reducible refine (HDG.out _).mono ?_); rintro e w4 ⟨rfl, hb⟩; have HD4 := Lib.hid (HD3'.out.below hb); clear hb)
          | (go_at_call 54; (with_reducible refine (HS.out _ _).mono ?_); rintro e w5 ⟨rfl, hb⟩; have HD5 := Lib.hid (HD4.out.below hb); clear hb; have hbx := HD5.out.box (b := w3.heap.size) (v := ⟨2, (i : Int) * 7, Val.e⟩) (by simp); have c0 := hbx.cell 0 _ rfl; have c1 := hbx.cell 1 _ rfl; have c2 := hbx.cell 2 _ rfl; have f0 := hbx.frozen 0; have f1 := hbx.frozen 1; have f2 := hbx.frozen 2; clear hbx))
        have hwb : w.heap.size ≤ w3.heap.size := HD3.out.bel.size
        have HDX := Lib.hid (HD5.out.store (b := w3.heap.size) (v := ⟨2, (i : Int) * 7, Val.e⟩) (B' := [(w3.heap.size, kf i)]) (by simp) ⟨3, 0, ds⟩ hwb (fun p hp => by
          simp only [List.mem_singleton] at hp
          rw [hp, HK.out]
          exact .inl rfl))
        obtain ⟨b8, hb8⟩ : ∃ b8, b8 = w3.heap.size := ⟨_, rfl⟩
        rw [← hb8] at HDX ⊢
        obtain ⟨wx, hwx⟩ : ∃ wx, wx = ((w5.setCell ⟨b8, 0, none⟩ (.int .i64 3)).setCell ⟨b8, 1, none⟩ (.int .i64 0)).setCell ⟨b8, 2, none⟩ (.string ds) := ⟨_, rfl⟩
        have HDX : Hid (Dct (fun _ => False) w wx d ((List.range i).map pf) i [(b8, kf i)]) := Lib.hid (by rw [hwx]; exact HDX.out)
        rw [← hwx]
        clear hwx hb8 c0 c1 c2 f0 f1 f2 hwb HD5 HD4 HD3' HD3
        obtain ⟨⟨k1, k2, k3⟩, hkk⟩ : ∃ kk, kk = kf i := ⟨_, rfl⟩
        have HSETX := Lib.hid (fun (W : World) (h : Dct (fun _ => False) w W d ((List.range i).map pf) i [(b8, kf i)]) => h.setPf (by omega))
        rw [← hkk, show vf i = ⟨2, (i : Int), Val.e⟩ from rfl] at HSETX
        rw [← hkk] at HDX
        clear hkk HK
        have hdr : Below wx.heap.size wx ({ wx with drawn := wx.drawn + 1 } : World) := ⟨rfl, rfl, rfl, Nat.le_refl _, fun _ _ => rfl⟩
        have HDY := Lib.hid (HDX.out.below hdr)
        refine RG.region_F (fun W => Blk W b8 57 [.int .i64 k1, .int .i64 k2, .string k3]) 9 (by kernel_rfl) ?_
        clear hdr
        generalize ({ wx with drawn := wx.drawn + 1 } : World) = wy at *
        have q0 : ∀ W, Blk W b8 57 [.int .i64 k1, .int .i64 k2, .string k3] → W.cell? ⟨b8, 0, none⟩ = some (.int .i64 k1) := fun W hW => hW.cell 0 _ rfl
        have q1 : ∀ W, Blk W b8 57 [.int .i64 k1, .int .i64 k2, .string k3] → W.cell? ⟨b8, 1, none⟩ = some (.int .i64 k2) := fun W hW => hW.cell 1 _ rfl
        have q2 : ∀ W, Blk W b8 57 [.int .i64 k1, .int .i64 k2, .string k3] → W.cell? ⟨b8, 2, none⟩ = some (.string k3) := fun W hW => hW.cell 2 _ rfl
        have hS0 : Blk wy b8 57 [.int .i64 k1, .int .i64 k2, .string k3] := HDY.out.box (b := b8) (v := ⟨k1, k2, k3⟩) (by simp)
        refine RG.takeF 0 (oi := ⟨some 41, _, _, _, _, _⟩) (v := ?_) rfl (by kernel_rfl) (by kernel_rfl) (by kernel_rfl) (by kernel_rfl) (fun _ _ _ h => h) (Or.inl ⟨by rfl, ?hyao0⟩) hS0 ?restao0
        case hyao0 => (intro W hW; (try dsimp only at hW); go_simp; try with_reducible rfl)
        simp only [Act.put, List.setIfInBounds_toArray, List.set_cons_zero, List.set_cons_succ]
        refine RG.takeF 1 (oi := ⟨some 42, _, _, _, _, _⟩) (v := ?_) rfl (by kernel_rfl) (by kernel_rfl) (by kernel_rfl) (by kernel_rfl) (fun _ _ _ h => h) (Or.inl ⟨by rfl, ?hyao1⟩) hS0 ?restao1
        case hyao1 => (intro W hW; (try dsimp only at hW); go_simp; try with_reducible rfl)
        simp only [Act.put, List.setIfInBounds_toArray, List.set_cons_zero, List.set_cons_succ]
        refine RG.takeF 2 (oi := ⟨some 43, _, _, _, _, _⟩) (v := ?_) rfl (by kernel_rfl) (by kernel_rfl) (by kernel_rfl) (by kernel_rfl) (fun _ _ _ h => h) (Or.inl ⟨by rfl, ?hyao2⟩) hS0 ?restao2
        case hyao2 => (intro W hW; (try dsimp only at hW); go_simp; try with_reducible rfl)
        simp only [Act.put, List.setIfInBounds_toArray, List.set_cons_zero, List.set_cons_succ]
        refine RG.oneF 3 (by kernel_rfl) (by decide) ?_
        refine RG.wpOp_plain rfl rfl fun K hK => ?_
        go_simp
        with_reducible refine (HI.out _ _).mono ?_
        rintro e wz ⟨rfl, hb⟩
        have HDZ := Lib.hid (HDY.out.below hb)
        refine hK _ _ ⟨HDZ.out.box (b := b8) (v := ⟨k1, k2, k3⟩) (by simp), ?_⟩
        clear hK K hb
        try simp only [Act.put, List.setIfInBounds_toArray, List.set_cons_zero, List.set_cons_succ]
        refine RG.oneF 4 (by kernel_rfl) (by decide) ?_
        refine RG.wpOp_plain rfl rfl fun K hK => ?_
        go_simp
        with_reducible refine (HSETX.out _ HDZ.out).mono ?_
        rintro e wu ⟨rfl, h⟩
        have HDU := Lib.hid h
        have hS1 : Blk wu b8 57 [.int .i64 k1, .int .i64 k2, .string k3] := h.box (b := b8) (v := ⟨k1, k2, k3⟩) (by simp)
        refine hK _ _ ⟨hS1, ?_⟩
        clear hK K h
        try simp only [Act.put, List.setIfInBounds_toArray, List.set_cons_zero, List.set_cons_succ]
        refine RG.takeF 5 (oi := ⟨some 40, _, _, _, _, _⟩) (v := ?_) rfl (by kernel_rfl) (by kernel_rfl) (by kernel_rfl) (by kernel_rfl) (fun _ _ _ h => h) (Or.inl ⟨by rfl, ?hybo5⟩) hS1 ?restbo5
        case hybo5 => (intro W hW; (try dsimp only at hW); go_simp; try with_reducible rfl)
        simp only [Act.put, List.setIfInBounds_toArray, List.set_cons_zero, List.set_cons_succ]
        refine RG.takeF 6 (oi := ⟨some 46, _, _, _, _, _⟩) (v := ?_) rfl (by kernel_rfl) (by kernel_rfl) (by kernel_rfl) (by kernel_rfl) (fun _ _ _ h => h) (Or.inl ⟨by rfl, ?hybo6⟩) hS1 ?restbo6
        case hybo6 => (intro W hW; (try dsimp only at hW); go_simp; try with_reducible rfl)
        simp only [Act.put, List.setIfInBounds_toArray, List.set_cons_zero, List.set_cons_succ]
        refine RG.takeF 7 (oi := ⟨some 47, _, _, _, _, _⟩) (v := ?_) rfl (by kernel_rfl) (by kernel_rfl) (by kernel_rfl) (by kernel_rfl) (fun _ _ _ h => h) (Or.inl ⟨by rfl, ?hybo7⟩) hS1 ?restbo7
        case hybo7 => (intro W hW; (try dsimp only at hW); go_simp; try with_reducible rfl)
        simp only [Act.put, List.setIfInBounds_toArray, List.set_cons_zero, List.set_cons_succ]
        refine RG.takeF 8 (oi := ⟨some 9, _, _, _, _, _⟩) (v := ?_) rfl (by kernel_rfl) (by kernel_rfl) (by kernel_rfl) (by kernel_rfl) (fun _ _ _ h => h) (Or.inl ⟨by rfl, ?hybo8⟩) hS1 ?restbo8
        case hybo8 => (intro W hW; (try dsimp only at hW); go_simp; try with_reducible rfl)
        simp only [Act.put, List.setIfInBounds_toArray, List.set_cons_zero, List.set_cons_succ]
        refine RG.lastF (by kernel_rfl) (by kernel_rfl) ?_
        refine RG.wpOp_plain rfl rfl fun K hK => ?_
        go_simp
        refine hK _ _ ?_
        clear hK K
        try simp only [Act.put, List.setIfInBounds_toArray, List.set_cons_zero, List.set_cons_succ]
        clear q0 q1 q2 hS0 hS1
        go_wp2
        go_roundw
        case rel => exact ⟨i + 1, by omega, by go_num, Lib.hid (HDU.out.sub (fun p hp => by cases hp))⟩
        case measure => simp [intOf]; omega
      · have hpar : ((i : Int) % 2 == 1) = false := by simp; omega
        have hk : kf i = ⟨2, (i : Int) * 7, Val.e⟩ := if_neg hp
        have HK := Lib.hid hk
        clear hp hk
        go_upto_region 11 with (go_at_call 50; (with_reducible refine (HI.out _ _).mono ?_); rintro e w3 ⟨rfl, hb⟩; have HD3 := Lib.hid (hre.out.below hb); clear hb; have HD3' := Lib.hid (HD3.out.alloc ⟨2, (i : Int) * 7, Val.e⟩ w3.heap.size rfl))
        rw [← HK.out] at HD3'
        obtain ⟨b8, hb8⟩ : ∃ b8, b8 = w3.heap.size := ⟨_, rfl⟩
        rw [← hb8] at HD3' ⊢
        obtain ⟨wx, hwx⟩ : ∃ wx, wx = w3.alloc (.cells #[.int .i64 2, .int .i64 ((i : Int) * 7), .string Val.e] 57) := ⟨_, rfl⟩
        have HDX : Hid (Dct (fun _ => False) w wx d ((List.range i).map pf) i [(b8, kf i)]) := Lib.hid (by rw [hwx]; exact HD3'.out)
        rw [← hwx]
        clear hwx hb8 HD3' HD3
        obtain ⟨⟨k1, k2, k3⟩, hkk⟩ : ∃ kk, kk = kf i := ⟨_, rfl⟩
        have HSETX := Lib.hid (fun (W : World) (h : Dct (fun _ => False) w W d ((List.range i).map pf) i [(b8, kf i)]) => h.setPf (by omega))
        rw [← hkk, show vf i = ⟨2, (i : Int), Val.e⟩ from rfl] at HSETX
        rw [← hkk] at HDX
        clear hkk HK
        have hdr : Below wx.heap.size wx ({ wx with drawn := wx.drawn + 1 } : World) := ⟨rfl, rfl, rfl, Nat.le_refl _, fun _ _ => rfl⟩
        have HDY := Lib.hid (HDX.out.below hdr)
        refine RG.region_F (fun W => Blk W b8 57 [.int .i64 k1, .int .i64 k2, .string k3]) 9 (by kernel_rfl) ?_
        clear hdr
        generalize ({ wx with drawn := wx.drawn + 1 } : World) = wy at *
        have q0 : ∀ W, Blk W b8 57 [.int .i64 k1, .int .i64 k2, .string k3] → W.cell? ⟨b8, 0, none⟩ = some (.int .i64 k1) := fun W hW => hW.cell 0 _ rfl
        have q1 : ∀ W, Blk W b8 57 [.int .i64 k1, .int .i64 k2, .string k3] → W.cell? ⟨b8, 1, none⟩ = some (.int .i64 k2) := fun W hW => hW.cell 1 _ rfl
        have q2 : ∀ W, Blk W b8 57 [.int .i64 k1, .int .i64 k2, .string k3] → W.cell? ⟨b8, 2, none⟩ = some (.string k3) := fun W hW => hW.cell 2 _ rfl
        have hS0 : Blk wy b8 57 [.int .i64 k1, .int .i64 k2, .string k3] := HDY.out.box (b := b8) (v := ⟨k1, k2, k3⟩) (by simp)
        refine RG.takeF 0 (oi := ⟨some 41, _, _, _, _, _⟩) (v := ?_) rfl (by kernel_rfl) (by kernel_rfl) (by kernel_rfl) (by kernel_rfl) (fun _ _ _ h => h) (Or.inl ⟨by rfl, ?hyae0⟩) hS0 ?restae0
        case hyae0 => (intro W hW; (try dsimp only at hW); go_simp; try with_reducible rfl)
        simp only [Act.put, List.setIfInBounds_toArray, List.set_cons_zero, List.set_cons_succ]
        refine RG.takeF 1 (oi := ⟨some 42, _, _, _, _, _⟩) (v := ?_) rfl (by kernel_rfl) (by kernel_rfl) (by kernel_rfl) (by kernel_rfl) (fun _ _ _ h => h) (Or.inl ⟨by rfl, ?hyae1⟩) hS0 ?restae1
        case hyae1 => (intro W hW; (try dsimp only at hW); go_simp; try with_reducible rfl)
        simp only [Act.put, List.setIfInBounds_toArray, List.set_cons_zero, List.set_cons_succ]
        refine RG.takeF 2 (oi := ⟨some 43, _, _, _, _, _⟩) (v := ?_) rfl (by kernel_rfl) (by kernel_rfl) (by kernel_rfl) (by kernel_rfl) (fun _ _ _ h => h) (Or.inl ⟨by rfl, ?hyae2⟩) hS0 ?restae2
        case hyae2 => (intro W hW; (try dsimp only at hW); go_simp; try with_reducible rfl)
        simp only [Act.put, List.setIfInBounds_toArray, List.set_cons_zero, List.set_cons_succ]
        refine RG.oneF 3 (by kernel_rfl) (by decide) ?_
        refine RG.wpOp_plain rfl rfl fun K hK => ?_
        go_simp
        with_reducible refine (HI.out _ _).mono ?_
        rintro e wz ⟨rfl, hb⟩
        have HDZ := Lib.hid (HDY.out.below hb)
        refine hK _ _ ⟨HDZ.out.box (b := b8) (v := ⟨k1, k2, k3⟩) (by simp), ?_⟩
        clear hK K hb
        try simp only [Act.put, List.setIfInBounds_toArray, List.set_cons_zero, List.set_cons_succ]
        refine RG.oneF 4 (by kernel_rfl) (by decide) ?_
        refine RG.wpOp_plain rfl rfl fun K hK => ?_
        go_simp
        with_reducible refine (HSETX.out _ HDZ.out).mono ?_
        rintro e wu ⟨rfl, h⟩
        have HDU := Lib.hid h
        have hS1 : Blk wu b8 57 [.int .i64 k1, .int .i64 k2, .string k3] := h.box (b := b8) (v := ⟨k1, k2, k3⟩) (by simp)
        refine hK _ _ ⟨hS1, ?_⟩
        clear hK K h
        try simp only [Act.put, List.setIfInBounds_toArray, List.set_cons_zero, List.set_cons_succ]
        refine RG.takeF 5 (oi := ⟨some 40, _, _, _, _, _⟩) (v := ?_) rfl (by kernel_rfl) (by kernel_rfl) (by kernel_rfl) (by kernel_rfl) (fun _ _ _ h => h) (Or.inl ⟨by rfl, ?hybe5⟩) hS1 ?restbe5
        case hybe5 => (intro W hW; (try dsimp only at hW); go_simp; try with_reducible rfl)
        simp only [Act.put, List.setIfInBounds_toArray, List.set_cons_zero, List.set_cons_succ]
        refine RG.takeF 6 (oi := ⟨some 46, _, _, _, _, _⟩) (v := ?_) rfl (by kernel_rfl) (by kernel_rfl) (by kernel_rfl) (by kernel_rfl) (fun _ _ _ h => h) (Or.inl ⟨by rfl, ?hybe6⟩) hS1 ?restbe6
        case hybe6 => (intro W hW; (try dsimp only at hW); go_simp; try with_reducible rfl)
        simp only [Act.put, List.setIfInBounds_toArray, List.set_cons_zero, List.set_cons_succ]
        refine RG.takeF 7 (oi := ⟨some 47, _, _, _, _, _⟩) (v := ?_) rfl (by kernel_rfl) (by kernel_rfl) (by kernel_rfl) (by kernel_rfl) (fun _ _ _ h => h) (Or.inl ⟨by rfl, ?hybe7⟩) hS1 ?restbe7
        case hybe7 => (intro W hW; (try dsimp only at hW); go_simp; try with_reducible rfl)
        simp only [Act.put, List.setIfInBounds_toArray, List.set_cons_zero, List.set_cons_succ]
        refine RG.takeF 8 (oi := ⟨some 9, _, _, _, _, _⟩) (v := ?_) rfl (by kernel_rfl) (by kernel_rfl) (by kernel_rfl) (by kernel_rfl) (fun _ _ _ h => h) (Or.inl ⟨by rfl, ?hybe8⟩) hS1 ?restbe8
        case hybe8 => (intro W hW; (try dsimp only at hW); go_simp; try with_reducible rfl)
        simp only [Act.put, List.setIfInBounds_toArray, List.set_cons_zero, List.set_cons_succ]
        refine RG.lastF (by kernel_rfl) (by kernel_rfl) ?_
        refine RG.wpOp_plain rfl rfl fun K hK => ?_
        go_simp
        refine hK _ _ ?_
        clear hK K
        try simp only [Act.put, List.setIfInBounds_toArray, List.set_cons_zero, List.set_cons_succ]
        clear q0 q1 q2 hS0 hS1
        go_wp2
        go_roundw
        case rel => exact ⟨i + 1, by omega, by go_num, Lib.hid (HDU.out.sub (fun p hp => by cases hp))⟩
        case measure => simp [intOf]; omega
    · obtain rfl : all = i := by omega
      have HDA := Lib.hid hre.out
      have HLEN := Lib.hid (hre.out.len (by omega))
      have HLIV := Lib.hid (fun (W : World) (h : Dct (fun _ => False) w W d ((List.range all).map pf) all []) => h.live)
      rw [liveL_pf, List.length_range] at HLIV
      rw [List.length_map, List.length_range] at HLEN
      obtain ⟨st, hst⟩ : ∃ st, st = gap % 9 + 2 := ⟨_, rfl⟩
      have hgi : (gap : Int) % 9 + 2 = (st : Int) := by omega
      have hst2 : 2 ≤ st ∧ st ≤ 10 := by omega
      have HGI := Lib.hid hgi
      clear hre hst hgi
      go_upto_region 17 with (first
        | (go_at_call 46; (with_reducible refine HLEN.out.mono ?_); rintro e w3 ⟨rfl, hb⟩; have HDB := Lib.hid (HDA.out.below hb); clear hb)
        | (go_at_call 48; (with_reducible refine (HLIV.out _ HDB.out).mono ?_); rintro e w4 ⟨rfl, rfl⟩))
      go_wp2_with fail
      rw [HGI.out]
      have HDB0 : Hid (Dct (fun _ => False) w w3 d ((lf all st 0).map pf) all []) := Lib.hid (by rw [lf_zero]; exact HDB.out)
      clear HDB HDA HLEN HLIV
      go_loopw [12, 70] (fun lv ii wr => ∃ i : Nat, i ≤ all ∧ ii = .int .i64 i ∧ lv = .int .i64 (leftN st i : Nat) ∧ Hid (Dct (fun _ => False) w wr d ((lf all st i).map pf) all [])) (fun _ ii _ => all - (intOf ii).toNat)
      case atStart => exact ⟨0, Nat.zero_le _, rfl, rfl, Lib.hid HDB0.out⟩
      case round =>
        obtain ⟨i, hi, rfl, rfl, hre⟩ := hrel
        have hst0 : (2 : Int) ≤ (st : Int) := by omega
        have hst1 : (st : Int) ≤ 10 := by omega
        by_cases hlt : i < all
        · have hi0 : (0 : Int) ≤ (i : Int) := by omega
          have hi1 : (i : Int) < (all : Int) := by omega
          have hlft : leftN st i ≤ 1500 := by have := leftN_le st i; omega
          have HSUC := Lib.hid (leftN_succ st i)
          generalize leftN st i = lft at *
          have hlf0 : (0 : Int) ≤ (lft : Int) := by omega
          have hlf1 : (lft : Int) ≤ 1500 := by omega
          have HDG := Lib.hid (fun (W : World) => digits_calls (i * 7) (by omega) W)
          rw [show ((i * 7 : Nat) : Int) = (i : Int) * 7 by omega] at HDG
          by_cases hp : i % 2 = 1
          · have hpar : ((i : Int) % 2 == 1) = true := by simp; omega
            have hk : kf i = ⟨3, 0, digS (i * 7)⟩ := if_pos hp
            have HK := Lib.hid hk
            clear hp hk
            generalize digS (i * 7) = ds at *
            go_upto_region 25 with (first
              | (go_at_call 50; (with_reducible refine (HI.out _ _).mono ?_); rintro e w3 ⟨rfl, hb⟩; have HD3 := Lib.hid (hre.out.below hb); clear hb; have HD3' := Lib.hid (HD3.out.alloc ⟨2, (i : Int) * 7, Val.e⟩ w3.heap.size rfl))
              | (go_at_call 55; (with_reducible refine (HDG.out _).mono ?_); rintro e w4 ⟨rfl, hb⟩; have HD4 := Lib.hid (HD3'.out.below hb); clear hb)
              | (go_at_call 54; (with_reducible refine (HS.out _ _).mono ?_); rintro e w5 ⟨rfl, hb⟩; have HD5 := Lib.hid (HD4.out.below hb); clear hb; have hbx := HD5.out.box (b := w3.heap.size) (v := ⟨2, (i : Int) * 7, Val.e⟩) (by simp); have c0 := hbx.cell 0 _ rfl; have c1 := hbx.cell 1 _ rfl; have c2 := hbx.cell 2 _ rfl; have f0 := hbx.frozen 0; have f1 := hbx.frozen 1; have f2 := hbx.frozen 2; clear hbx))
            have hwb : w.heap.size ≤ w3.heap.size := HD3.out.bel.size
            have HDX := Lib.hid (HD5.out.store (b := w3.heap.size) (v := ⟨2, (i : Int) * 7, Val.e⟩) (B' := [(w3.heap.size, kf i)]) (by simp) ⟨3, 0, ds⟩ hwb (fun p hp => by
              simp only [List.mem_singleton] at hp
              rw [hp, HK.out]
              exact .inl rfl))
            obtain ⟨b8, hb8⟩ : ∃ b8, b8 = w3.heap.size := ⟨_, rfl⟩
            rw [← hb8] at HDX ⊢
            obtain ⟨wx, hwx⟩ : ∃ wx, wx = ((w5.setCell ⟨b8, 0, none⟩ (.int .i64 3)).setCell ⟨b8, 1, none⟩ (.int .i64 0)).setCell ⟨b8, 2, none⟩ (.string ds) := ⟨_, rfl⟩
            have HDX : Hid (Dct (fun _ => False) w wx d ((lf all st i).map pf) all [(b8, kf i)]) := Lib.hid (by rw [hwx]; exact HDX.out)
            rw [← hwx]
            clear hwx hb8 c0 c1 c2 f0 f1 f2 hwb HD5 HD4 HD3' HD3
            obtain ⟨⟨k1, k2, k3⟩, hkk⟩ : ∃ kk, kk = kf i := ⟨_, rfl⟩
            have hgp := get_pf (lf_mem (step := st) hlt)
            have HGETX := Lib.hid (fun (W : World) (h : Dct (fun _ => False) w W d ((lf all st i).map pf) all [(b8, kf i)]) => h.get (kf i) (kf_size i (by omega)))
            have HHASX := Lib.hid (fun (W : World) (h : Dct (fun _ => False) w W d ((lf all st i).map pf) all [(b8, kf i)]) => h.has (kf i) (kf_size i (by omega)))
            have HDRPX := Lib.hid (fun (W : World) (h : Dct (fun _ => False) w W d ((lf all st i).map pf) all [(b8, kf i)]) => h.drop (fun b h => h.elim) (kf i) (kf_size i (by omega)))
            have HHASN := Lib.hid (fun (W : World) (h : Dct (fun _ => False) w W d ((lf all st (i + 1)).map pf) all [(b8, kf i)]) => h.has (kf i) (kf_size i (by omega)))
            rw [hgp.2, if_pos rfl, drop_pf] at HDRPX
            rw [hgp.1, ← hkk, show vf i = ⟨2, (i : Int), Val.e⟩ from rfl] at HGETX
            rw [hgp.2, ← hkk] at HHASX
            rw [← hkk] at HDRPX HDX
            clear hgp
            have hbx := HDX.out.box (b := b8) (v := ⟨k1, k2, k3⟩) (by simp)
            have x0 := hbx.cell 0 _ rfl
            have x1 := hbx.cell 1 _ rfl
            have x2 := hbx.cell 2 _ rfl
            clear hbx
            by_cases hm : i % st = 0
            · have hmi : (i : Int) % (st : Int) = 0 := by have := congrArg (fun n : Nat => (n : Int)) hm; simpa using this
              have HKEEP := Lib.hid (lf_keep (all := all) hm)
              rw [if_pos hm] at HSUC
              clear hkk HK HHASN HDRPX hm
              go_wp2_with (first
                | (go_at_call 47; (with_reducible refine (HGETX.out _ HDX.out).mono ?_); rintro e w6 ⟨rfl, hb⟩; have HD6 := Lib.hid (HDX.out.below hb); clear hb; have hbx := HD6.out.box (b := b8) (v := ⟨k1, k2, k3⟩) (by simp); have y0 := hbx.cell 0 _ rfl; have y1 := hbx.cell 1 _ rfl; have y2 := hbx.cell 2 _ rfl; clear hbx)
                | (go_at_call 50; (with_reducible refine (HI.out _ _).mono ?_); rintro e w7 ⟨rfl, hb⟩; have HD7 := Lib.hid (HD6.out.below hb); clear hb; have hbx := HD7.out.box (b := b8) (v := ⟨k1, k2, k3⟩) (by simp); have z0 := hbx.cell 0 _ rfl; have z1 := hbx.cell 1 _ rfl; have z2 := hbx.cell 2 _ rfl; clear hbx)
                | (go_at_call 56; (with_reducible refine (HHASX.out _ HD7.out).mono ?_); rintro e w8 ⟨rfl, hb⟩; have HD8 := Lib.hid (HD7.out.below hb); clear hb))
              go_roundw
              case rel => exact ⟨i + 1, by omega, by go_num, by rw [HSUC.out]; go_num, Lib.hid (by rw [HKEEP.out]; exact HD8.out.sub (fun p hp => by cases hp))⟩
              case measure => simp [intOf]; omega
            · have hmi : ((i : Int) % (st : Int) == 0) = false := by
                simp only [beq_eq_false_iff_ne, ne_eq]
                intro e
                exact hm (by omega)
              have hmi2 : ((i : Int) % (st : Int) != 0) = true := by simp [bne, hmi]
              have HGONE := Lib.hid (lf_gone (all := all) hm)
              rw [has_pf HGONE.out, ← hkk] at HHASN
              rw [lf_drop hm] at HDRPX
              rw [if_neg hm] at HSUC
              clear hkk HK hm
              go_wp2_with (first
                | (go_at_call 47; (with_reducible refine (HGETX.out _ HDX.out).mono ?_); rintro e w6 ⟨rfl, hb⟩; have HD6 := Lib.hid (HDX.out.below hb); clear hb; have hbx := HD6.out.box (b := b8) (v := ⟨k1, k2, k3⟩) (by simp); have y0 := hbx.cell 0 _ rfl; have y1 := hbx.cell 1 _ rfl; have y2 := hbx.cell 2 _ rfl; clear hbx)
                | (go_at_call 50; (with_reducible refine (HI.out _ _).mono ?_); rintro e w7 ⟨rfl, hb⟩; have HD7 := Lib.hid (HD6.out.below hb); clear hb; have hbx := HD7.out.box (b := b8) (v := ⟨k1, k2, k3⟩) (by simp); have z0 := hbx.cell 0 _ rfl; have z1 := hbx.cell 1 _ rfl; have z2 := hbx.cell 2 _ rfl; clear hbx)
                | (go_at_call 45; (with_reducible refine (HDRPX.out _ HD8.out).mono ?_); rintro e w9 ⟨rfl, h, _⟩; have HD9 := Lib.hid h; clear h; have hbx := HD9.out.box (b := b8) (v := ⟨k1, k2, k3⟩) (by simp); have v0 := hbx.cell 0 _ rfl; have v1 := hbx.cell 1 _ rfl; have v2 := hbx.cell 2 _ rfl; clear hbx)
                | (go_at_call 56; first
                    | ((with_reducible refine (HHASN.out _ HD9.out).mono ?_); rintro e w10 ⟨rfl, hb⟩; have HD10 := Lib.hid (HD9.out.below hb); clear hb)
                    | ((with_reducible refine (HHASX.out _ HD7.out).mono ?_); rintro e w8 ⟨rfl, hb⟩; have HD8 := Lib.hid (HD7.out.below hb); clear hb; have hbx := HD8.out.box (b := b8) (v := ⟨k1, k2, k3⟩) (by simp); have s0 := hbx.cell 0 _ rfl; have s1 := hbx.cell 1 _ rfl; have s2 := hbx.cell 2 _ rfl; clear hbx)))
              go_roundw
              case rel => exact ⟨i + 1, by omega, by go_num, by rw [HSUC.out]; go_num, Lib.hid (HD10.out.sub (fun p hp => by cases hp))⟩
              case measure => simp [intOf]; omega
          · have hpar : ((i : Int) % 2 == 1) = false := by simp; omega
            have hk : kf i = ⟨2, (i : Int) * 7, Val.e⟩ := if_neg hp
            have HK := Lib.hid hk
            clear hp hk
            go_upto_region 25 with (go_at_call 50; (with_reducible refine (HI.out _ _).mono ?_); rintro e w3 ⟨rfl, hb⟩; have HD3 := Lib.hid (hre.out.below hb); clear hb; have HD3' := Lib.hid (HD3.out.alloc ⟨2, (i : Int) * 7, Val.e⟩ w3.heap.size rfl))
            rw [← HK.out] at HD3'
            obtain ⟨b8, hb8⟩ : ∃ b8, b8 = w3.heap.size := ⟨_, rfl⟩
            rw [← hb8] at HD3' ⊢
            obtain ⟨wx, hwx⟩ : ∃ wx, wx = w3.alloc (.cells #[.int .i64 2, .int .i64 ((i : Int) * 7), .string Val.e] 57) := ⟨_, rfl⟩
            have HDX : Hid (Dct (fun _ => False) w wx d ((lf all st i).map pf) all [(b8, kf i)]) := Lib.hid (by rw [hwx]; exact HD3'.out)
            rw [← hwx]
            clear hwx hb8 HD3' HD3
            obtain ⟨⟨k1, k2, k3⟩, hkk⟩ : ∃ kk, kk = kf i := ⟨_, rfl⟩
            have hgp := get_pf (lf_mem (step := st) hlt)
            have HGETX := Lib.hid (fun (W : World) (h : Dct (fun _ => False) w W d ((lf all st i).map pf) all [(b8, kf i)]) => h.get (kf i) (kf_size i (by omega)))
            have HHASX := Lib.hid (fun (W : World) (h : Dct (fun _ => False) w W d ((lf all st i).map pf) all [(b8, kf i)]) => h.has (kf i) (kf_size i (by omega)))
            have HDRPX := Lib.hid (fun (W : World) (h : Dct (fun _ => False) w W d ((lf all st i).map pf) all [(b8, kf i)]) => h.drop (fun b h => h.elim) (kf i) (kf_size i (by omega)))
            have HHASN := Lib.hid (fun (W : World) (h : Dct (fun _ => False) w W d ((lf all st (i + 1)).map pf) all [(b8, kf i)]) => h.has (kf i) (kf_size i (by omega)))
            rw [hgp.2, if_pos rfl, drop_pf] at HDRPX
            rw [hgp.1, ← hkk, show vf i = ⟨2, (i : Int), Val.e⟩ from rfl] at HGETX
            rw [hgp.2, ← hkk] at HHASX
            rw [← hkk] at HDRPX HDX
            clear hgp
            have hbx := HDX.out.box (b := b8) (v := ⟨k1, k2, k3⟩) (by simp)
            have x0 := hbx.cell 0 _ rfl
            have x1 := hbx.cell 1 _ rfl
            have x2 := hbx.cell 2 _ rfl
            clear hbx
            by_cases hm : i % st = 0
            · have hmi : (i : Int) % (st : Int) = 0 := by have := congrArg (fun n : Nat => (n : Int)) hm; simpa using this
              have HKEEP := Lib.hid (lf_keep (all := all) hm)
              rw [if_pos hm] at HSUC
              clear hkk HK HHASN HDRPX hm
              go_wp2_with (first
                | (go_at_call 47; (with_reducible refine (HGETX.out _ HDX.out).mono ?_); rintro e w6 ⟨rfl, hb⟩; have HD6 := Lib.hid (HDX.out.below hb); clear hb; have hbx := HD6.out.box (b := b8) (v := ⟨k1, k2, k3⟩) (by simp); have y0 := hbx.cell 0 _ rfl; have y1 := hbx.cell 1 _ rfl; have y2 := hbx.cell 2 _ rfl; clear hbx)
                | (go_at_call 50; (with_reducible refine (HI.out _ _).mono ?_); rintro e w7 ⟨rfl, hb⟩; have HD7 := Lib.hid (HD6.out.below hb); clear hb; have hbx := HD7.out.box (b := b8) (v := ⟨k1, k2, k3⟩) (by simp); have z0 := hbx.cell 0 _ rfl; have z1 := hbx.cell 1 _ rfl; have z2 := hbx.cell 2 _ rfl; clear hbx)
                | (go_at_call 56; (with_reducible refine (HHASX.out _ HD7.out).mono ?_); rintro e w8 ⟨rfl, hb⟩; have HD8 := Lib.hid (HD7.out.below hb); clear hb))
              go_roundw
              case rel => exact ⟨i + 1, by omega, by go_num, by rw [HSUC.out]; go_num, Lib.hid (by rw [HKEEP.out]; exact HD8.out.sub (fun p hp => by cases hp))⟩
              case measure => simp [intOf]; omega
            · have hmi : ((i : Int) % (st : Int) == 0) = false := by
                simp only [beq_eq_false_iff_ne, ne_eq]
                intro e
                exact hm (by omega)
              have hmi2 : ((i : Int) % (st : Int) != 0) = true := by simp [bne, hmi]
              have HGONE := Lib.hid (lf_gone (all := all) hm)
              rw [has_pf HGONE.out, ← hkk] at HHASN
              rw [lf_drop hm] at HDRPX
              rw [if_neg hm] at HSUC
              clear hkk HK hm
              go_wp2_with (first
                | (go_at_call 47; (with_reducible refine (HGETX.out _ HDX.out).mono ?_); rintro e w6 ⟨rfl, hb⟩; have HD6 := Lib.hid (HDX.out.below hb); clear hb; have hbx := HD6.out.box (b := b8) (v := ⟨k1, k2, k3⟩) (by simp); have y0 := hbx.cell 0 _ rfl; have y1 := hbx.cell 1 _ rfl; have y2 := hbx.cell 2 _ rfl; clear hbx)
                | (go_at_call 50; (with_reducible refine (HI.out _ _).mono ?_); rintro e w7 ⟨rfl, hb⟩; have HD7 := Lib.hid (HD6.out.below hb); clear hb; have hbx := HD7.out.box (b := b8) (v := ⟨k1, k2, k3⟩) (by simp); have z0 := hbx.cell 0 _ rfl; have z1 := hbx.cell 1 _ rfl; have z2 := hbx.cell 2 _ rfl; clear hbx)
                | (go_at_call 45; (with_reducible refine (HDRPX.out _ HD8.out).mono ?_); rintro e w9 ⟨rfl, h, _⟩; have HD9 := Lib.hid h; clear h; have hbx := HD9.out.box (b := b8) (v := ⟨k1, k2, k3⟩) (by simp); have v0 := hbx.cell 0 _ rfl; have v1 := hbx.cell 1 _ rfl; have v2 := hbx.cell 2 _ rfl; clear hbx)
                | (go_at_call 56; first
                    | ((with_reducible refine (HHASN.out _ HD9.out).mono ?_); rintro e w10 ⟨rfl, hb⟩; have HD10 := Lib.hid (HD9.out.below hb); clear hb)
                    | ((with_reducible refine (HHASX.out _ HD7.out).mono ?_); rintro e w8 ⟨rfl, hb⟩; have HD8 := Lib.hid (HD7.out.below hb); clear hb; have hbx := HD8.out.box (b := b8) (v := ⟨k1, k2, k3⟩) (by simp); have s0 := hbx.cell 0 _ rfl; have s1 := hbx.cell 1 _ rfl; have s2 := hbx.cell 2 _ rfl; clear hbx)))
              go_roundw
              case rel => exact ⟨i + 1, by omega, by go_num, by rw [HSUC.out]; go_num, Lib.hid (HD10.out.sub (fun p hp => by cases hp))⟩
              case measure => simp [intOf]; omega
        · obtain rfl : all = i := by omega
          obtain ⟨b15, hb15⟩ : ∃ b, b = wr.heap.size := ⟨_, rfl⟩
          have hwb : w.heap.size ≤ b15 := by rw [hb15]; exact hre.out.bel.size
          have HDC := Lib.hid (hre.out.alloc Val.nil b15 hb15)
          have HWB := Lib.hid hwb
          have hlft : leftN st all ≤ 1500 := by have := leftN_le st all; omega
          have HLF := Lib.hid (lf_len all st)
          have hlf0 : (0 : Int) ≤ (leftN st all : Int) := by omega
          clear hre
          go_wp2_with fail
          rw [← hb15]
          obtain ⟨wq, hwq⟩ : ∃ wq, wq = wr.alloc (.cells #[.int .i64 0, .int .i64 0, .string ⟨#[]⟩] 57) := ⟨_, rfl⟩
          have HDC : Hid (Dct (fun _ => False) w wq d ((lf all st all).map pf) all [(b15, Val.nil)]) := Lib.hid (by rw [hwq]; exact HDC.out)
          rw [← hwq]
          clear hwq hb15 hwb
          generalize leftN st all = lft at *
          go_loopw [16] (fun ii wr => ∃ i : Nat, i ≤ all + st ∧ i % st = 0 ∧ ii = .int .i64 i ∧ Hid (Dct (fun _ => False) w wr d ((lf all st all).map pf) all [(b15, atf st i)])) (fun ii _ => all + st - (intOf ii).toNat)
          case atStart => exact ⟨0, by omega, Nat.zero_mod _, rfl, Lib.hid HDC.out⟩
          case round =>
            obtain ⟨i, hi, him, rfl, hre⟩ := hrel
            have hi0 : (0 : Int) ≤ (i : Int) := by omega
            have hi2 : (i : Int) ≤ 2000 := by omega
            by_cases hlt : i < all
            · have hi1 : (i : Int) < (all : Int) := by omega
              have HNX := Lib.hid (hre.out.nextTo (atf st i) (atf_size st i (by omega)) (kf i) (vf i) 0 (next_atf hst2.1 him hlt))
              have HIM := Lib.hid him
              obtain ⟨⟨a1, a2, a3⟩, ha⟩ : ∃ a, a = atf st i := ⟨_, rfl⟩
              obtain ⟨⟨k1, k2, k3⟩, hkk⟩ : ∃ kk, kk = kf i := ⟨_, rfl⟩
              have HKK := Lib.hid hkk
              rw [← ha] at HNX hre
              rw [← hkk, show vf i = ⟨2, (i : Int), Val.e⟩ from rfl] at HNX
              have hbx := hre.out.box (b := b15) (v := ⟨a1, a2, a3⟩) (by simp)
              have x0 := hbx.cell 0 _ rfl
              have x1 := hbx.cell 1 _ rfl
              have x2 := hbx.cell 2 _ rfl
              clear hbx hkk ha him
              go_upto_region 37 with (go_at_call 49; (with_reducible refine HNX.out.mono ?_); rintro e w6 ⟨rfl, hb⟩; have HD6 := Lib.hid (hre.out.below hb); clear hb)
              have HD7 := Lib.hid ((HD6.out.alloc ⟨k1, k2, k3⟩ w6.heap.size rfl).alloc ⟨2, (i : Int), Val.e⟩ (w6.heap.size + 1) (by simp))
              obtain ⟨bx, hbx⟩ : ∃ b, b = w6.heap.size := ⟨_, rfl⟩
              have hbxl : b15 < bx := by rw [hbx]; exact (HD6.out.box (b := b15) (v := ⟨a1, a2, a3⟩) (by simp)).lt
              rw [← hbx] at HD7 ⊢
              obtain ⟨w7, hw7⟩ : ∃ w7, w7 = (w6.alloc (.cells #[.int .i64 k1, .int .i64 k2, .string k3] 57)).alloc (.cells #[.int .i64 2, .int .i64 i, .string Val.e] 57) := ⟨_, rfl⟩
              have HD8 : Hid (Dct (fun _ => False) w w7 d ((lf all st all).map pf) all [(bx + 1, ⟨2, (i : Int), Val.e⟩), (bx, ⟨k1, k2, k3⟩), (b15, ⟨a1, a2, a3⟩)]) := Lib.hid (by rw [hw7]; exact HD7.out)
              rw [← hw7]
              clear hw7 HD7 hbx
              have q0 : ∀ W, Below w7.heap.size w7 W → W.cell? ⟨bx + 1, 0, none⟩ = some (.int .i64 2) := fun W hW => ((HD8.out.below hW).box (b := bx + 1) (v := ⟨2, (i : Int), Val.e⟩) (by simp)).cell 0 _ rfl
              have q1 : ∀ W, Below w7.heap.size w7 W → W.cell? ⟨bx + 1, 1, none⟩ = some (.int .i64 i) := fun W hW => ((HD8.out.below hW).box (b := bx + 1) (v := ⟨2, (i : Int), Val.e⟩) (by simp)).cell 1 _ rfl
              have q2 : ∀ W, Below w7.heap.size w7 W → W.cell? ⟨bx + 1, 2, none⟩ = some (.string Val.e) := fun W hW => ((HD8.out.below hW).box (b := bx + 1) (v := ⟨2, (i : Int), Val.e⟩) (by simp)).cell 2 _ rfl
              refine QB.region w7 (by kernel_rfl) (by kernel_rfl) (Below.refl _ _) ?_
              refine QB.step (v := ?_) (by rfl) ?_ ?_
              rotate_left
              · (intro W hW; (try dsimp only at hW); go_simp; try with_reducible rfl)
              try simp only [Act.put, List.setIfInBounds_toArray, List.set_cons_zero, List.set_cons_succ]
              refine QB.step (v := ?_) (by rfl) ?_ ?_
              rotate_left
              · (intro W hW; (try dsimp only at hW); go_simp; try with_reducible rfl)
              try simp only [Act.put, List.setIfInBounds_toArray, List.set_cons_zero, List.set_cons_succ]
              refine QB.step (v := ?_) (by rfl) ?_ ?_
              rotate_left
              · (intro W hW; (try dsimp only at hW); go_simp; try with_reducible rfl)
              try simp only [Act.put, List.setIfInBounds_toArray, List.set_cons_zero, List.set_cons_succ]
              refine QB.step (v := ?_) (by rfl) ?_ ?_
              rotate_left
              · (intro W hW; (try dsimp only at hW); go_simp; try with_reducible rfl)
              try simp only [Act.put, List.setIfInBounds_toArray, List.set_cons_zero, List.set_cons_succ]
              refine QB.step (v := ?_) (by rfl) ?_ ?_
              rotate_left
              · (intro W hW; (try dsimp only at hW); go_simp; try with_reducible rfl)
              try simp only [Act.put, List.setIfInBounds_toArray, List.set_cons_zero, List.set_cons_succ]
              refine QB.step (v := ?_) (by rfl) ?_ ?_
              rotate_left
              · (intro W hW; (try dsimp only at hW); go_simp; with_reducible refine (HI.out _ _).mono ?_; rintro e w'' ⟨rfl, hb⟩; refine ⟨?_, hW.trans (hb.mono hW.size)⟩; with_reducible rfl)
              try simp only [Act.put, List.setIfInBounds_toArray, List.set_cons_zero, List.set_cons_succ]
              refine QB.step (v := ?_) (by rfl) ?_ ?_
              rotate_left
              · (intro W hW; (try dsimp only at hW); go_simp; try with_reducible rfl)
              try simp only [Act.put, List.setIfInBounds_toArray, List.set_cons_zero, List.set_cons_succ]
              refine QB.step (v := ?_) (by rfl) ?_ ?_
              rotate_left
              · (intro W hW; (try dsimp only at hW); go_simp; try with_reducible rfl)
              try simp only [Act.put, List.setIfInBounds_toArray, List.set_cons_zero, List.set_cons_succ]
              refine wpQuiet_nil ?_
              intro w8 hb8
              have HD9 := Lib.hid (HD8.out.below hb8)
              have hbk := HD9.out.box (b := bx) (v := ⟨k1, k2, k3⟩) (by simp)
              have g0 := hbk.cell 0 _ rfl
              have g1 := hbk.cell 1 _ rfl
              have g2 := hbk.cell 2 _ rfl
              have hba := HD9.out.box (b := b15) (v := ⟨a1, a2, a3⟩) (by simp)
              have s0 := hba.cell 0 _ rfl
              have s1 := hba.cell 1 _ rfl
              have s2 := hba.cell 2 _ rfl
              have f0 := hba.frozen 0
              have f1 := hba.frozen 1
              have f2 := hba.frozen 2
              clear hbk hba q0 q1 q2
              go_wp2_with fail
              go_roundw
              case rel => exact ⟨i + st, by omega, by rw [Nat.add_mod_right]; exact HIM.out, by go_num, Lib.hid (HD9.out.store (b := b15) (v := ⟨a1, a2, a3⟩) (by simp) ⟨k1, k2, k3⟩ HWB.out (fun p hp => by
                simp only [List.mem_singleton] at hp
                rw [hp, HKK.out]
                refine .inl ?_
                unfold atf
                rw [if_neg (by omega), Nat.add_sub_cancel]))⟩
              case measure => simp [intOf]; omega
            · have hi1 : ¬ (i : Int) < (all : Int) := by omega
              have HDE := Lib.hid (hre.out.sub (B' := []) (fun p hp => by cases hp))
              have HLN := Lib.hid (HDE.out.len (by omega))
              rw [List.length_map, HLF.out] at HLN
              have HHN := Lib.hid (fun (W : World) (h : Dct (fun _ => False) w W d ((lf all st all).map pf) all []) => h.has ⟨2, -1, Val.e⟩ (by decide))
              rw [has_neg] at HHN
              clear hre
              go_wp2_with (first
                | (go_at_call 46; (with_reducible refine HLN.out.mono ?_); rintro e w6 ⟨rfl, hb⟩; have HD6 := Lib.hid (HDE.out.below hb); clear hb)
                | (go_at_call 50; (with_reducible refine (HI.out _ _).mono ?_); rintro e w7 ⟨rfl, hb⟩; have HD7 := Lib.hid (HD6.out.below hb); clear hb)
                | (go_at_call 56; (with_reducible refine (HHN.out _ HD7.out).mono ?_); rintro e w8 ⟨rfl, hb⟩; have HD8 := Lib.hid (HD7.out.below hb); clear hb))
              go_ret
              exact ⟨rfl, HD8.out.bel⟩
theorem grows_walk_int (a b : Int) (w : World) (ha : (Lit.int .u16 a).wf = true) (hb : (Lit.int .u8 b).wf = true) : Calls Try.prog 9 #[.int .u16 a, .int .u8 b] w fun e w' => e = .returned (.bool true) ∧ Below w.heap.size w w' := by
  have h1 : 0 ≤ a ∧ a < 65536 := by simp [Lit.wf, IntKind.min, IntKind.max, IntKind.signed, IntKind.bits, IntKind.wrap] at ha; omega
  have h2 : 0 ≤ b ∧ b < 256 := by simp [Lit.wf, IntKind.min, IntKind.max, IntKind.signed, IntKind.bits, IntKind.wrap] at hb; omega
  obtain ⟨n, rfl⟩ : ∃ n : Nat, a = n := ⟨a.toNat, by omega⟩
  obtain ⟨g, rfl⟩ : ∃ g : Nat, b = g := ⟨b.toNat, by omega⟩
  exact grows_walk n g (by omega) (by omega) w
end Go.Proofs.Ytmjfmfelbmbniaa
