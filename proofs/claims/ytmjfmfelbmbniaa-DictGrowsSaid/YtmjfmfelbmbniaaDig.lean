/- Digits of numbers that are not negative. -/
import Derived.Test.YtmjfmfelbmbniaaQB
import Derived.Test.YtmjfmfelbmbniaaStays
import Derived.Test.YtmjfmfelbmbniaaRG2
import Derived.Laws.IdiomStrings
namespace Go.Proofs.Ytmjfmfelbmbniaa
open Go.RowKit Go.Maps HK
set_option linter.unusedVariables false
set_option linter.unusedSimpArgs false
def digC (n : Nat) : UInt8 := UInt8.ofNat (48 + n)
def digS (n : Nat) : ByteArray := if h : n < 10 then ⟨#[digC n]⟩ else digS (n / 10) ++ ⟨#[digC (n % 10)]⟩
termination_by n
decreasing_by omega
def digV (s : ByteArray) : Nat := s.data.toList.foldl (fun r c => r * 10 + (c.toNat - 48)) 0
theorem digV_snoc (s : ByteArray) (c : UInt8) : digV (s ++ ⟨#[c]⟩) = digV s * 10 + (c.toNat - 48) := by
  unfold digV
  simp [ByteArray.data_append, List.foldl_append]
theorem dig_toNat {n : Nat} (h : n < 10) : (digC n).toNat - 48 = n := by
  unfold digC
  rw [UInt8.toNat_ofNat']
  omega
theorem digV_digS (n : Nat) : digV (digS n) = n := by
  induction n using Nat.strongRecOn with
  | _ n ih =>
    unfold digS
    split
    · rename_i h
      show 0 * 10 + _ = n
      rw [dig_toNat h]; omega
    · rename_i h
      rw [digV_snoc, ih (n / 10) (by omega), dig_toNat (by omega)]
      omega
theorem digS_inj {n m : Nat} (h : digS n = digS m) : n = m := by rw [← digV_digS n, h, digV_digS m]
theorem digS_size (n : Nat) : (digS n).size ≤ n + 1 := by
  induction n using Nat.strongRecOn with
  | _ n ih =>
    unfold digS
    split
    · show 1 ≤ n + 1; omega
    · have := ih (n / 10) (by omega)
      rw [ByteArray.size_append]
      show _ + 1 ≤ _
      omega
theorem run_dig (W : World) (b n : Nat) (hn : n < 10) (i : Int) (hi : i = (n : Nat)) (h : W.cell? ⟨b, 0, none⟩ = some (.int .u8 (48 + i))) : (Go.convert 98 9 (.slice (some ⟨b, 0, none⟩) 1 1)).run Try.prog W = .ok (.string ⟨#[digC n]⟩) W := by
  subst hi
  refine run_convert_bytes_back W 98 9 5 ⟨b, 0, none⟩ 1 [digC n] Try.underlying98 Try.underlying5 Try.underlying9 (fun j hj => ?_)
  have hj0 : j = 0 := by simpa using hj
  subst hj0
  have e : (digC n).toNat = 48 + n := by unfold digC; rw [UInt8.toNat_ofNat']; omega
  simpa [Addr.add, e] using h
set_option maxHeartbeats 4000000 in
set_option maxRecDepth 20000 in
theorem digits_calls (n : Nat) (hn : n ≤ 1000000) (w : World) : Calls Try.prog 55 #[.int .i64 (n : Nat)] w fun e w' => e = .returned (.string (digS n)) ∧ Below w.heap.size w w' := by
  induction n using Nat.strongRecOn generalizing w with
  | _ n ih =>
    by_cases h : n < 10
    · have hd : digS n = ⟨#[digC n]⟩ := by unfold digS; rw [dif_pos h]
      rw [hd]
      have h0 : (0 : Int) ≤ (n : Int) := by omega
      have h1 : (n : Int) < 10 := by omega
      have hr := run_dig (w.alloc (.cells #[.int .u8 (48 + (n : Int))] 5)) w.heap.size n h _ rfl ((Blk.new w [.int .u8 (48 + (n : Int))] 5).cell 0 _ rfl)
      clear ih hd
      go_enter Try.func55, Try.ntmps55
      go_wp2_with fail
      go_ret
      exact ⟨rfl, (Below.refl _ _).alloc (Nat.le_refl _) _⟩
    · have hd : digS n = digS (n / 10) ++ ⟨#[digC (n % 10)]⟩ := by rw [digS, dif_neg h]
      have HD := Lib.hid hd
      have HI := Lib.hid (fun (W : World) => ih (n / 10) (by omega) (by omega) W)
      have h0 : (0 : Int) ≤ (n : Int) := by omega
      have h1 : ¬ (n : Int) < 10 := by omega
      have h2 : (n : Int) ≤ 1000000 := by omega
      have hq : ((n / 10 : Nat) : Int) = (n : Int) / 10 := by omega
      obtain ⟨r, hr⟩ : ∃ r, r = n % 10 := ⟨_, rfl⟩
      have hri : ((r : Nat) : Int) = (n : Int) % 10 := by omega
      have hr10 : r < 10 := by omega
      have hsz : ¬ 9223372036854775807 < (digS (n / 10)).size + 1 := by have := digS_size (n / 10); omega
      have HRI := Lib.hid hri
      have HR := Lib.hid hr
      rw [hq] at HI
      clear ih hd hr hri hq
      go_enter Try.func55, Try.ntmps55
      go_upto_region 8 with (fail)
      rw [← HRI.out]
      have hr0 : (0 : Int) ≤ (r : Int) := by omega
      have hr1 : (r : Int) < 10 := by omega
      refine RG.region_F (Below w.heap.size w) 9 (by kernel_rfl) ?_
      have hB0 : Below w.heap.size w ({ w with drawn := w.drawn + 1 } : World) := ⟨rfl, rfl, rfl, Nat.le_refl _, fun _ _ => rfl⟩
      generalize ({ w with drawn := w.drawn + 1 } : World) = w1 at hB0 ⊢
      refine RG.takeF 0 (oi := ⟨some 32, _, _, _, _, _⟩) (v := ?_) rfl (by kernel_rfl) (by kernel_rfl) (by kernel_rfl) (by kernel_rfl) (fun _ _ _ h => h) (Or.inl ⟨by rfl, ?hyg0⟩) hB0 ?restg0
      case hyg0 => (intro W hW; (try dsimp only at hW); go_simp; try with_reducible rfl)
      simp only [Act.put, List.setIfInBounds_toArray, List.set_cons_zero, List.set_cons_succ]
      refine RG.takeF 1 (oi := ⟨some 33, _, _, _, _, _⟩) (v := ?_) rfl (by kernel_rfl) (by kernel_rfl) (by kernel_rfl) (by kernel_rfl) (fun _ _ _ h => h) (Or.inl ⟨by rfl, ?hyg1⟩) hB0 ?restg1
      case hyg1 => (intro W hW; (try dsimp only at hW); go_simp; try with_reducible rfl)
      simp only [Act.put, List.setIfInBounds_toArray, List.set_cons_zero, List.set_cons_succ]
      refine RG.takeF 3 (oi := ⟨some 35, _, _, _, _, _⟩) (v := ?_) rfl (by kernel_rfl) (by kernel_rfl) (by kernel_rfl) (by kernel_rfl) (fun _ _ _ h => h) (Or.inl ⟨by rfl, ?hyg3⟩) hB0 ?restg3
      case hyg3 => (intro W hW; (try dsimp only at hW); go_simp; try with_reducible rfl)
      simp only [Act.put, List.setIfInBounds_toArray, List.set_cons_zero, List.set_cons_succ]
      refine RG.takeF 4 (oi := ⟨some 36, _, _, _, _, _⟩) (v := ?_) rfl (by kernel_rfl) (by kernel_rfl) (by kernel_rfl) (by kernel_rfl) (fun _ _ _ h => h) (Or.inl ⟨by rfl, ?hyg4⟩) hB0 ?restg4
      case hyg4 => (intro W hW; (try dsimp only at hW); go_simp; try with_reducible rfl)
      simp only [Act.put, List.setIfInBounds_toArray, List.set_cons_zero, List.set_cons_succ]
      refine RG.takeF 5 (oi := ⟨some 37, _, _, _, _, _⟩) (v := ?_) rfl (by kernel_rfl) (by kernel_rfl) (by kernel_rfl) (by kernel_rfl) (fun _ _ _ h => h) (Or.inl ⟨by rfl, ?hyg5⟩) hB0 ?restg5
      case hyg5 => (intro W hW; (try dsimp only at hW); go_simp; try with_reducible rfl)
      simp only [Act.put, List.setIfInBounds_toArray, List.set_cons_zero, List.set_cons_succ]
      have hw1 : IntKind.i64.wrap ((n : Int) / 10) = (n : Int) / 10 := by rw [IntKind.wrap_i64]; omega
      have hw2 : IntKind.i64.wrap (48 + (r : Int)) = 48 + (r : Int) := by rw [IntKind.wrap_i64]; omega
      have hw3 : IntKind.u8.wrap (48 + (r : Int)) = 48 + (r : Int) := by rw [IntKind.wrap_u8]; omega
      rw [hw1, hw2, hw3]
      clear hw1 hw2 hw3
      refine RG.twoF 2 6 (by kernel_rfl) (by decide) (by decide) ?xa ?xb
      case' xa =>
        refine RG.wpOp_plain rfl rfl fun K hK => ?_
        go_simp
        with_reducible refine (HI.out _).mono ?_
        rintro e w2 ⟨rfl, hb⟩
        have hB2 : Below w.heap.size w w2 := hB0.trans (hb.mono hB0.size)
        refine hK _ _ ⟨hB2, ?_⟩
        clear hK K
        try simp only [Act.put, List.setIfInBounds_toArray, List.set_cons_zero, List.set_cons_succ]
        refine RG.oneF 6 (by kernel_rfl) (by decide) ?_
        refine RG.wpOp_plain rfl rfl fun K hK => ?_
        go_simp
        have hB3 : Below w.heap.size w (w2.alloc (.cells #[.int .u8 (48 + (r : Int))] 5)) := hB2.alloc hB2.size _
        refine hK _ _ ⟨hB3, ?_⟩
        clear hK K
        try simp only [Act.put, List.setIfInBounds_toArray, List.set_cons_zero, List.set_cons_succ]
        have hcv := run_dig (w2.alloc (.cells #[.int .u8 (48 + (r : Int))] 5)) w2.heap.size r hr10 _ rfl ((Blk.new w2 [.int .u8 (48 + (r : Int))] 5).cell 0 _ rfl)
        refine RG.oneF 7 (by kernel_rfl) (by decide) ?_
        refine RG.wpOp_plain rfl rfl fun K hK => ?_
        go_simp
        refine hK _ _ ⟨hB3, ?_⟩
        clear hK K
        try simp only [Act.put, List.setIfInBounds_toArray, List.set_cons_zero, List.set_cons_succ]
        refine RG.oneF 8 (by kernel_rfl) (by decide) ?_
        refine RG.wpOp_plain rfl rfl fun K hK => ?_
        go_simp
        refine hK _ _ ⟨hB3, ?_⟩
        clear hK K
        try simp only [Act.put, List.setIfInBounds_toArray, List.set_cons_zero, List.set_cons_succ]
        refine RG.lastF (by kernel_rfl) (by kernel_rfl) ?_
        refine RG.wpOp_plain rfl rfl fun K hK => ?_
        go_simp
        refine hK _ _ ?_
        clear hK K
        try simp only [Act.put, List.setIfInBounds_toArray, List.set_cons_zero, List.set_cons_succ]
      case' xb =>
        refine RG.wpOp_plain rfl rfl fun K hK => ?_
        go_simp
        have hB3 : Below w.heap.size w (w1.alloc (.cells #[.int .u8 (48 + (r : Int))] 5)) := hB0.alloc hB0.size _
        refine hK _ _ ⟨hB3, ?_⟩
        clear hK K
        try simp only [Act.put, List.setIfInBounds_toArray, List.set_cons_zero, List.set_cons_succ]
        have hbk := Blk.new w1 [.int .u8 (48 + (r : Int))] 5
        obtain ⟨wx, hwx⟩ : ∃ wx, wx = w1.alloc (.cells #[.int .u8 (48 + (r : Int))] 5) := ⟨_, rfl⟩
        have hbk' : Blk wx w1.heap.size 5 [.int .u8 (48 + (r : Int))] := by rw [hwx]; exact hbk
        rw [← hwx] at hB3 ⊢
        clear hbk hwx
        refine RG.twoF 2 7 (by kernel_rfl) (by decide) (by decide) ?xc ?xd
        case' xc =>
          refine RG.wpOp_plain rfl rfl fun K hK => ?_
          go_simp
          with_reducible refine (HI.out _).mono ?_
          rintro e w4 ⟨rfl, hb⟩
          have hB4 : Below w.heap.size w w4 := hB3.trans (hb.mono hB3.size)
          refine hK _ _ ⟨hB4, ?_⟩
          clear hK K
          try simp only [Act.put, List.setIfInBounds_toArray, List.set_cons_zero, List.set_cons_succ]
          have hcv := run_dig w4 w1.heap.size r hr10 _ rfl ((hbk'.of (hb.block _ hbk'.lt)).cell 0 _ rfl)
          refine RG.oneF 7 (by kernel_rfl) (by decide) ?_
          refine RG.wpOp_plain rfl rfl fun K hK => ?_
          go_simp
          refine hK _ _ ⟨hB4, ?_⟩
          clear hK K
          try simp only [Act.put, List.setIfInBounds_toArray, List.set_cons_zero, List.set_cons_succ]
          refine RG.oneF 8 (by kernel_rfl) (by decide) ?_
          refine RG.wpOp_plain rfl rfl fun K hK => ?_
          go_simp
          refine hK _ _ ⟨hB4, ?_⟩
          clear hK K
          try simp only [Act.put, List.setIfInBounds_toArray, List.set_cons_zero, List.set_cons_succ]
          refine RG.lastF (by kernel_rfl) (by kernel_rfl) ?_
          refine RG.wpOp_plain rfl rfl fun K hK => ?_
          go_simp
          refine hK _ _ ?_
          clear hK K
          try simp only [Act.put, List.setIfInBounds_toArray, List.set_cons_zero, List.set_cons_succ]
        case' xd =>
          have hcv := run_dig wx w1.heap.size r hr10 _ rfl (hbk'.cell 0 _ rfl)
          refine RG.wpOp_plain rfl rfl fun K hK => ?_
          go_simp
          refine hK _ _ ⟨hB3, ?_⟩
          clear hK K
          try simp only [Act.put, List.setIfInBounds_toArray, List.set_cons_zero, List.set_cons_succ]
          clear hcv
          refine RG.oneF 2 (by kernel_rfl) (by decide) ?_
          refine RG.wpOp_plain rfl rfl fun K hK => ?_
          go_simp
          with_reducible refine (HI.out _).mono ?_
          rintro e w4 ⟨rfl, hb⟩
          have hB4 : Below w.heap.size w w4 := hB3.trans (hb.mono hB3.size)
          refine hK _ _ ⟨hB4, ?_⟩
          clear hK K
          try simp only [Act.put, List.setIfInBounds_toArray, List.set_cons_zero, List.set_cons_succ]
          refine RG.oneF 8 (by kernel_rfl) (by decide) ?_
          refine RG.wpOp_plain rfl rfl fun K hK => ?_
          go_simp
          refine hK _ _ ⟨hB4, ?_⟩
          clear hK K
          try simp only [Act.put, List.setIfInBounds_toArray, List.set_cons_zero, List.set_cons_succ]
          refine RG.lastF (by kernel_rfl) (by kernel_rfl) ?_
          refine RG.wpOp_plain rfl rfl fun K hK => ?_
          go_simp
          refine hK _ _ ?_
          clear hK K
          try simp only [Act.put, List.setIfInBounds_toArray, List.set_cons_zero, List.set_cons_succ]
      all_goals
        go_wp2
        go_ret
        refine ⟨by rw [HD.out, ← HR.out]; rfl, by assumption⟩
end Go.Proofs.Ytmjfmfelbmbniaa
