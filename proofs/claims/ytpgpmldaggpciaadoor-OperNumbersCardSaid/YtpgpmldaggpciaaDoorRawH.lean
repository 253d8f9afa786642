/- value.Raw, by hand. -/
import Derived.Test.YtpgpmldaggpciaaDoorOwnH
set_option linter.unusedVariables false
set_option linter.unusedSimpArgs false
namespace Go.Proofs.YtpgpmldaggpciaaDoor.Val
open Go.RowKit Go.Proofs.YtpgpmldaggpciaaDoorW.PrintWords Go.Proofs.YtpgpmldaggpciaaDoorW.PrintLast Go.Proofs.YtpgpmldaggpciaaDoor.Maths Go.Proofs.YtpgpmldaggpciaaDoor.TabW Go.Proofs.YtpgpmldaggpciaaDoor.HK
section
variable {P : Program} {md : Region.Mode} {ops : Array Oper} {Q : Exit → Act → World → Prop} {S : World → Prop}
theorem one {i : Nat} {fuel : Nat} {listed : Array Bool} {a : Act} {w : World} (hr : Region.ready md ops listed = [i]) (h : wpOp P ops Q i (fun a' w' => S w' ∧ wpAnyH P md ops Q S fuel (listed.setIfInBounds i true) a' w') a w) : wpAnyH P md ops Q S (fuel + 1) listed a w :=
  wpAnyH_all hr (by simp) (fun j hj => by simp at hj; subst hj; exact h)
theorem wpOp_wanted {i : Nat} {o : Oper} {K : Act → World → Prop} {a : Act} {w : World} (ho : ops[i]? = some o) (hw : Region.wanted o (yielded ops a.tmps) = true) (h : ∀ K' : Act → World → Prop, (∀ a w, K a w → K' a w) → o.wp P a w K' Q) : wpOp P ops Q i K a w := by
  unfold wpOp
  rw [ho]
  simp only [hw, if_true]
  exact .inl (h K fun _ _ h => h)
theorem takeH (i : Nat) {oi : Oper} {v : Value} {fuel : Nat} {listed : Array Bool} {a : Act} {w : World} (hi : ops[i]? = some oi)
    (hs : Region.noSelect ops = true) (hf : Region.free md ops listed i = true) (hr : (Region.ready md ops listed).contains i = true)
    (hQ : ∀ c a w, Q (.panic c) (a.put oi.dst v) w → Q (.panic c) a w) (hy : YieldsIf P ops S oi v a) (hS : S w)
    (h : wpAnyH P md ops Q S fuel (listed.setIfInBounds i true) (a.put oi.dst v) w) : wpAnyH P md ops Q S (fuel + 1) listed a w :=
  wpAnyH_take hi hs hf hr hQ hy hS h
end
set_option maxHeartbeats 2000000 in
set_option maxRecDepth 20000 in
theorem raw1 (k n : Int) (s : ByteArray) (k2 n2 : Int) (s2 : ByteArray) (w : World) (hs : decide (k < 0 ∨ k > 7) = true) : Calls Tryd.prog 70 #[.agg #[.int .i64 k, .int .i64 n, .string s], .agg #[.int .i64 k2, .int .i64 n2, .string s2]] w fun e w' => e = .returned (.bool false) ∧ Below w.heap.size w w' := by
  have HS := Lib.hid (fun W => hStrange k n s W)
  rw [hs] at HS
  clear hs
  go_enter Tryd.func70, Tryd.ntmps70
  go_upto_region 1 with (fail)
  obtain ⟨w1, hw1⟩ : ∃ z, z = (w.alloc (.cells #[.int .i64 k, .int .i64 n, .string s] 32)).alloc (.cells #[.int .i64 k2, .int .i64 n2, .string s2] 32) := ⟨_, rfl⟩
  have HB1 : Hid (Below w.heap.size w w1) := Lib.hid (by rw [hw1]; exact bel2 _ _ _)
  have HA : Hid (Blk w1 w.heap.size 32 [.int .i64 k, .int .i64 n, .string s]) := Lib.hid (by rw [hw1]; exact (Blk.new w [.int .i64 k, .int .i64 n, .string s] _).alloc _)
  have HK2 : Hid (Blk w1 (w.heap.size + 1) 32 [.int .i64 k2, .int .i64 n2, .string s2]) := Lib.hid (by rw [hw1]; simpa using Blk.new (w.alloc (.cells #[.int .i64 k, .int .i64 n, .string s] 32)) [.int .i64 k2, .int .i64 n2, .string s2] 32)
  rw [← hw1]
  clear hw1
  have hu := Tryd.underlying32
  have hB0 : Below w1.heap.size w1 ({ w1 with drawn := w1.drawn + 1 } : World) := ⟨rfl, rfl, rfl, Nat.le_refl _, fun _ _ => rfl⟩
  refine wp_region_held (S := Below w1.heap.size w1) (by kernel_rfl) ?_
  have hS0 := hB0
  generalize ({ w1 with drawn := w1.drawn + 1 } : World) = w2 at hS0 hB0 ⊢
  have a0 : ∀ W, Below w1.heap.size w1 W → W.cell? ⟨w.heap.size, 0, none⟩ = some (.int .i64 k) := fun W hW => (HA.out.of (hW.block _ HA.out.lt)).cell 0 _ rfl
  have a1 : ∀ W, Below w1.heap.size w1 W → W.cell? ⟨w.heap.size, 1, none⟩ = some (.int .i64 n) := fun W hW => (HA.out.of (hW.block _ HA.out.lt)).cell 1 _ rfl
  have a2 : ∀ W, Below w1.heap.size w1 W → W.cell? ⟨w.heap.size, 2, none⟩ = some (.string s) := fun W hW => (HA.out.of (hW.block _ HA.out.lt)).cell 2 _ rfl
  have b0 : ∀ W, Below w1.heap.size w1 W → W.cell? ⟨w.heap.size + 1, 0, none⟩ = some (.int .i64 k2) := fun W hW => (HK2.out.of (hW.block _ HK2.out.lt)).cell 0 _ rfl
  have b1 : ∀ W, Below w1.heap.size w1 W → W.cell? ⟨w.heap.size + 1, 1, none⟩ = some (.int .i64 n2) := fun W hW => (HK2.out.of (hW.block _ HK2.out.lt)).cell 1 _ rfl
  have b2 : ∀ W, Below w1.heap.size w1 W → W.cell? ⟨w.heap.size + 1, 2, none⟩ = some (.string s2) := fun W hW => (HK2.out.of (hW.block _ HK2.out.lt)).cell 2 _ rfl
  refine takeH 0 (oi := ⟨some 5, _, _, _, _, _⟩) (v := ?_) rfl (by kernel_rfl) (by kernel_rfl) (by kernel_rfl) (fun _ _ _ h => h) (Or.inl ⟨by rfl, ?hyA0⟩) hS0 ?restA0
  case hyA0 => (intro W hW; (try dsimp only at hW); go_simp; try with_reducible rfl)
  try simp only [Act.put, List.setIfInBounds_toArray, List.set_cons_zero, List.set_cons_succ]
  refine one (i := 1) (by kernel_rfl) ?_
  refine wpOp_wanted rfl (by rfl) fun K hK => ?_
  go_simp
  with_reducible refine (HS.out _).mono ?_
  rintro e wn ⟨rfl, hb⟩
  have hS1 : Below w1.heap.size w1 wn := hS0.trans (hb.mono hS0.size)
  clear hb
  refine hK _ _ ⟨hS1, ?_⟩
  clear hK K
  try simp only [Act.put, List.setIfInBounds_toArray, List.set_cons_zero, List.set_cons_succ]
  refine takeH 2 (oi := ⟨some 7, _, _, _, _, _⟩) (v := ?_) rfl (by kernel_rfl) (by kernel_rfl) (by kernel_rfl) (fun _ _ _ h => h) (Or.inl ⟨by rfl, ?hyA2⟩) hS1 ?restA2
  case hyA2 => (intro W hW; (try dsimp only at hW); go_simp; try with_reducible rfl)
  try simp only [Act.put, List.setIfInBounds_toArray, List.set_cons_zero, List.set_cons_succ]
  refine takeH 3 (oi := ⟨some 8, _, _, _, _, _⟩) (v := ?_) rfl (by kernel_rfl) (by kernel_rfl) (by kernel_rfl) (fun _ _ _ h => h) (Or.inl ⟨by rfl, ?hyA3⟩) hS1 ?restA3
  case hyA3 => (intro W hW; (try dsimp only at hW); go_simp; try with_reducible rfl)
  try simp only [Act.put, List.setIfInBounds_toArray, List.set_cons_zero, List.set_cons_succ]
  refine takeH 4 (oi := ⟨some 9, _, _, _, _, _⟩) (v := undef) rfl (by kernel_rfl) (by kernel_rfl) (by kernel_rfl) (fun _ _ _ h => h) (Or.inr ⟨by rfl, rfl⟩) hS1 ?restA4
  try simp only [Act.put, List.setIfInBounds_toArray, List.set_cons_zero, List.set_cons_succ]
  refine takeH 5 (oi := ⟨some 10, _, _, _, _, _⟩) (v := undef) rfl (by kernel_rfl) (by kernel_rfl) (by kernel_rfl) (fun _ _ _ h => h) (Or.inr ⟨by rfl, rfl⟩) hS1 ?restA5
  try simp only [Act.put, List.setIfInBounds_toArray, List.set_cons_zero, List.set_cons_succ]
  refine takeH 6 (oi := ⟨some 11, _, _, _, _, _⟩) (v := undef) rfl (by kernel_rfl) (by kernel_rfl) (by kernel_rfl) (fun _ _ _ h => h) (Or.inr ⟨by rfl, rfl⟩) hS1 ?restA6
  try simp only [Act.put, List.setIfInBounds_toArray, List.set_cons_zero, List.set_cons_succ]
  refine takeH 7 (oi := ⟨some 12, _, _, _, _, _⟩) (v := undef) rfl (by kernel_rfl) (by kernel_rfl) (by kernel_rfl) (fun _ _ _ h => h) (Or.inr ⟨by rfl, rfl⟩) hS1 ?restA7
  try simp only [Act.put, List.setIfInBounds_toArray, List.set_cons_zero, List.set_cons_succ]
  refine takeH 8 (oi := ⟨some 13, _, _, _, _, _⟩) (v := undef) rfl (by kernel_rfl) (by kernel_rfl) (by kernel_rfl) (fun _ _ _ h => h) (Or.inr ⟨by rfl, rfl⟩) hS1 ?restA8
  try simp only [Act.put, List.setIfInBounds_toArray, List.set_cons_zero, List.set_cons_succ]
  refine takeH 9 (oi := ⟨some 14, _, _, _, _, _⟩) (v := ?_) rfl (by kernel_rfl) (by kernel_rfl) (by kernel_rfl) (fun _ _ _ h => h) (Or.inl ⟨by rfl, ?hyA9⟩) hS1 ?restA9
  case hyA9 => (intro W hW; (try dsimp only at hW); go_simp; try with_reducible rfl)
  try simp only [Act.put, List.setIfInBounds_toArray, List.set_cons_zero, List.set_cons_succ]
  refine takeH 10 (oi := ⟨some 15, _, _, _, _, _⟩) (v := ?_) rfl (by kernel_rfl) (by kernel_rfl) (by kernel_rfl) (fun _ _ _ h => h) (Or.inl ⟨by rfl, ?hyA10⟩) hS1 ?restA10
  case hyA10 => (intro W hW; (try dsimp only at hW); go_simp; try with_reducible rfl)
  try simp only [Act.put, List.setIfInBounds_toArray, List.set_cons_zero, List.set_cons_succ]
  refine takeH 11 (oi := ⟨some 16, _, _, _, _, _⟩) (v := undef) rfl (by kernel_rfl) (by kernel_rfl) (by kernel_rfl) (fun _ _ _ h => h) (Or.inr ⟨by rfl, rfl⟩) hS1 ?restA11
  try simp only [Act.put, List.setIfInBounds_toArray, List.set_cons_zero, List.set_cons_succ]
  refine takeH 12 (oi := ⟨some 17, _, _, _, _, _⟩) (v := undef) rfl (by kernel_rfl) (by kernel_rfl) (by kernel_rfl) (fun _ _ _ h => h) (Or.inr ⟨by rfl, rfl⟩) hS1 ?restA12
  try simp only [Act.put, List.setIfInBounds_toArray, List.set_cons_zero, List.set_cons_succ]
  refine takeH 13 (oi := ⟨some 18, _, _, _, _, _⟩) (v := undef) rfl (by kernel_rfl) (by kernel_rfl) (by kernel_rfl) (fun _ _ _ h => h) (Or.inr ⟨by rfl, rfl⟩) hS1 ?restA13
  try simp only [Act.put, List.setIfInBounds_toArray, List.set_cons_zero, List.set_cons_succ]
  refine takeH 14 (oi := ⟨some 19, _, _, _, _, _⟩) (v := undef) rfl (by kernel_rfl) (by kernel_rfl) (by kernel_rfl) (fun _ _ _ h => h) (Or.inr ⟨by rfl, rfl⟩) hS1 ?restA14
  try simp only [Act.put, List.setIfInBounds_toArray, List.set_cons_zero, List.set_cons_succ]
  refine takeH 15 (oi := ⟨some 20, _, _, _, _, _⟩) (v := undef) rfl (by kernel_rfl) (by kernel_rfl) (by kernel_rfl) (fun _ _ _ h => h) (Or.inr ⟨by rfl, rfl⟩) hS1 ?restA15
  try simp only [Act.put, List.setIfInBounds_toArray, List.set_cons_zero, List.set_cons_succ]
  refine takeH 16 (oi := ⟨some 21, _, _, _, _, _⟩) (v := ?_) rfl (by kernel_rfl) (by kernel_rfl) (by kernel_rfl) (fun _ _ _ h => h) (Or.inl ⟨by rfl, ?hyA16⟩) hS1 ?restA16
  case hyA16 => (intro W hW; (try dsimp only at hW); go_simp; try with_reducible rfl)
  try simp only [Act.put, List.setIfInBounds_toArray, List.set_cons_zero, List.set_cons_succ]
  refine takeH 17 (oi := ⟨some 4, _, _, _, _, _⟩) (v := ?_) rfl (by kernel_rfl) (by kernel_rfl) (by kernel_rfl) (fun _ _ _ h => h) (Or.inl ⟨by rfl, ?hyA17⟩) hS1 ?restA17
  case hyA17 => (intro W hW; (try dsimp only at hW); go_simp; try with_reducible rfl)
  try simp only [Act.put, List.setIfInBounds_toArray, List.set_cons_zero, List.set_cons_succ]
  refine wpAnyH_done (by kernel_rfl) ?_ _
  clear a0 a1 a2 b0 b1 b2
  go_wp2_with fail
  go_ret
  exact ⟨rfl, HB1.out.trans (hS1.mono HB1.out.size)⟩
set_option maxHeartbeats 2000000 in
set_option maxRecDepth 20000 in
theorem raw2 (k n : Int) (s : ByteArray) (k2 n2 : Int) (s2 : ByteArray) (w : World) (hs : decide (k < 0 ∨ k > 7) = false) (hk : (k == k2) = false) : Calls Tryd.prog 70 #[.agg #[.int .i64 k, .int .i64 n, .string s], .agg #[.int .i64 k2, .int .i64 n2, .string s2]] w fun e w' => e = .returned (.bool false) ∧ Below w.heap.size w w' := by
  have HS := Lib.hid (fun W => hStrange k n s W)
  rw [hs] at HS
  clear hs
  go_enter Tryd.func70, Tryd.ntmps70
  go_upto_region 1 with (fail)
  obtain ⟨w1, hw1⟩ : ∃ z, z = (w.alloc (.cells #[.int .i64 k, .int .i64 n, .string s] 32)).alloc (.cells #[.int .i64 k2, .int .i64 n2, .string s2] 32) := ⟨_, rfl⟩
  have HB1 : Hid (Below w.heap.size w w1) := Lib.hid (by rw [hw1]; exact bel2 _ _ _)
  have HA : Hid (Blk w1 w.heap.size 32 [.int .i64 k, .int .i64 n, .string s]) := Lib.hid (by rw [hw1]; exact (Blk.new w [.int .i64 k, .int .i64 n, .string s] _).alloc _)
  have HK2 : Hid (Blk w1 (w.heap.size + 1) 32 [.int .i64 k2, .int .i64 n2, .string s2]) := Lib.hid (by rw [hw1]; simpa using Blk.new (w.alloc (.cells #[.int .i64 k, .int .i64 n, .string s] 32)) [.int .i64 k2, .int .i64 n2, .string s2] 32)
  rw [← hw1]
  clear hw1
  have hu := Tryd.underlying32
  have hB0 : Below w1.heap.size w1 ({ w1 with drawn := w1.drawn + 1 } : World) := ⟨rfl, rfl, rfl, Nat.le_refl _, fun _ _ => rfl⟩
  refine wp_region_held (S := Below w1.heap.size w1) (by kernel_rfl) ?_
  have hS0 := hB0
  generalize ({ w1 with drawn := w1.drawn + 1 } : World) = w2 at hS0 hB0 ⊢
  have a0 : ∀ W, Below w1.heap.size w1 W → W.cell? ⟨w.heap.size, 0, none⟩ = some (.int .i64 k) := fun W hW => (HA.out.of (hW.block _ HA.out.lt)).cell 0 _ rfl
  have a1 : ∀ W, Below w1.heap.size w1 W → W.cell? ⟨w.heap.size, 1, none⟩ = some (.int .i64 n) := fun W hW => (HA.out.of (hW.block _ HA.out.lt)).cell 1 _ rfl
  have a2 : ∀ W, Below w1.heap.size w1 W → W.cell? ⟨w.heap.size, 2, none⟩ = some (.string s) := fun W hW => (HA.out.of (hW.block _ HA.out.lt)).cell 2 _ rfl
  have b0 : ∀ W, Below w1.heap.size w1 W → W.cell? ⟨w.heap.size + 1, 0, none⟩ = some (.int .i64 k2) := fun W hW => (HK2.out.of (hW.block _ HK2.out.lt)).cell 0 _ rfl
  have b1 : ∀ W, Below w1.heap.size w1 W → W.cell? ⟨w.heap.size + 1, 1, none⟩ = some (.int .i64 n2) := fun W hW => (HK2.out.of (hW.block _ HK2.out.lt)).cell 1 _ rfl
  have b2 : ∀ W, Below w1.heap.size w1 W → W.cell? ⟨w.heap.size + 1, 2, none⟩ = some (.string s2) := fun W hW => (HK2.out.of (hW.block _ HK2.out.lt)).cell 2 _ rfl
  refine takeH 0 (oi := ⟨some 5, _, _, _, _, _⟩) (v := ?_) rfl (by kernel_rfl) (by kernel_rfl) (by kernel_rfl) (fun _ _ _ h => h) (Or.inl ⟨by rfl, ?hyB0⟩) hS0 ?restB0
  case hyB0 => (intro W hW; (try dsimp only at hW); go_simp; try with_reducible rfl)
  try simp only [Act.put, List.setIfInBounds_toArray, List.set_cons_zero, List.set_cons_succ]
  refine one (i := 1) (by kernel_rfl) ?_
  refine wpOp_wanted rfl (by rfl) fun K hK => ?_
  go_simp
  with_reducible refine (HS.out _).mono ?_
  rintro e wn ⟨rfl, hb⟩
  have hS1 : Below w1.heap.size w1 wn := hS0.trans (hb.mono hS0.size)
  clear hb
  refine hK _ _ ⟨hS1, ?_⟩
  clear hK K
  try simp only [Act.put, List.setIfInBounds_toArray, List.set_cons_zero, List.set_cons_succ]
  refine takeH 2 (oi := ⟨some 7, _, _, _, _, _⟩) (v := ?_) rfl (by kernel_rfl) (by kernel_rfl) (by kernel_rfl) (fun _ _ _ h => h) (Or.inl ⟨by rfl, ?hyB2⟩) hS1 ?restB2
  case hyB2 => (intro W hW; (try dsimp only at hW); go_simp; try with_reducible rfl)
  try simp only [Act.put, List.setIfInBounds_toArray, List.set_cons_zero, List.set_cons_succ]
  refine takeH 3 (oi := ⟨some 8, _, _, _, _, _⟩) (v := ?_) rfl (by kernel_rfl) (by kernel_rfl) (by kernel_rfl) (fun _ _ _ h => h) (Or.inl ⟨by rfl, ?hyB3⟩) hS1 ?restB3
  case hyB3 => (intro W hW; (try dsimp only at hW); go_simp; try with_reducible rfl)
  try simp only [Act.put, List.setIfInBounds_toArray, List.set_cons_zero, List.set_cons_succ]
  refine takeH 4 (oi := ⟨some 9, _, _, _, _, _⟩) (v := ?_) rfl (by kernel_rfl) (by kernel_rfl) (by kernel_rfl) (fun _ _ _ h => h) (Or.inl ⟨by rfl, ?hyB4⟩) hS1 ?restB4
  case hyB4 => (intro W hW; (try dsimp only at hW); go_simp; try with_reducible rfl)
  try simp only [Act.put, List.setIfInBounds_toArray, List.set_cons_zero, List.set_cons_succ]
  refine takeH 5 (oi := ⟨some 10, _, _, _, _, _⟩) (v := ?_) rfl (by kernel_rfl) (by kernel_rfl) (by kernel_rfl) (fun _ _ _ h => h) (Or.inl ⟨by rfl, ?hyB5⟩) hS1 ?restB5
  case hyB5 => (intro W hW; (try dsimp only at hW); go_simp; try with_reducible rfl)
  try simp only [Act.put, List.setIfInBounds_toArray, List.set_cons_zero, List.set_cons_succ]
  refine takeH 6 (oi := ⟨some 11, _, _, _, _, _⟩) (v := ?_) rfl (by kernel_rfl) (by kernel_rfl) (by kernel_rfl) (fun _ _ _ h => h) (Or.inl ⟨by rfl, ?hyB6⟩) hS1 ?restB6
  case hyB6 => (intro W hW; (try dsimp only at hW); go_simp; try with_reducible rfl)
  try simp only [Act.put, List.setIfInBounds_toArray, List.set_cons_zero, List.set_cons_succ]
  refine takeH 7 (oi := ⟨some 12, _, _, _, _, _⟩) (v := ?_) rfl (by kernel_rfl) (by kernel_rfl) (by kernel_rfl) (fun _ _ _ h => h) (Or.inl ⟨by rfl, ?hyB7⟩) hS1 ?restB7
  case hyB7 => (intro W hW; (try dsimp only at hW); go_simp; try with_reducible rfl)
  try simp only [Act.put, List.setIfInBounds_toArray, List.set_cons_zero, List.set_cons_succ]
  refine takeH 8 (oi := ⟨some 13, _, _, _, _, _⟩) (v := ?_) rfl (by kernel_rfl) (by kernel_rfl) (by kernel_rfl) (fun _ _ _ h => h) (Or.inl ⟨by rfl, ?hyB8⟩) hS1 ?restB8
  case hyB8 => (intro W hW; (try dsimp only at hW); go_simp; try with_reducible rfl)
  try simp only [Act.put, List.setIfInBounds_toArray, List.set_cons_zero, List.set_cons_succ]
  refine takeH 9 (oi := ⟨some 14, _, _, _, _, _⟩) (v := ?_) rfl (by kernel_rfl) (by kernel_rfl) (by kernel_rfl) (fun _ _ _ h => h) (Or.inl ⟨by rfl, ?hyB9⟩) hS1 ?restB9
  case hyB9 => (intro W hW; (try dsimp only at hW); go_simp; try with_reducible rfl)
  try simp only [Act.put, List.setIfInBounds_toArray, List.set_cons_zero, List.set_cons_succ]
  refine takeH 10 (oi := ⟨some 15, _, _, _, _, _⟩) (v := ?_) rfl (by kernel_rfl) (by kernel_rfl) (by kernel_rfl) (fun _ _ _ h => h) (Or.inl ⟨by rfl, ?hyB10⟩) hS1 ?restB10
  case hyB10 => (intro W hW; (try dsimp only at hW); go_simp; try with_reducible rfl)
  try simp only [Act.put, List.setIfInBounds_toArray, List.set_cons_zero, List.set_cons_succ]
  refine takeH 11 (oi := ⟨some 16, _, _, _, _, _⟩) (v := undef) rfl (by kernel_rfl) (by kernel_rfl) (by kernel_rfl) (fun _ _ _ h => h) (Or.inr ⟨by rfl, rfl⟩) hS1 ?restB11
  try simp only [Act.put, List.setIfInBounds_toArray, List.set_cons_zero, List.set_cons_succ]
  refine takeH 12 (oi := ⟨some 17, _, _, _, _, _⟩) (v := undef) rfl (by kernel_rfl) (by kernel_rfl) (by kernel_rfl) (fun _ _ _ h => h) (Or.inr ⟨by rfl, rfl⟩) hS1 ?restB12
  try simp only [Act.put, List.setIfInBounds_toArray, List.set_cons_zero, List.set_cons_succ]
  refine takeH 13 (oi := ⟨some 18, _, _, _, _, _⟩) (v := undef) rfl (by kernel_rfl) (by kernel_rfl) (by kernel_rfl) (fun _ _ _ h => h) (Or.inr ⟨by rfl, rfl⟩) hS1 ?restB13
  try simp only [Act.put, List.setIfInBounds_toArray, List.set_cons_zero, List.set_cons_succ]
  refine takeH 14 (oi := ⟨some 19, _, _, _, _, _⟩) (v := undef) rfl (by kernel_rfl) (by kernel_rfl) (by kernel_rfl) (fun _ _ _ h => h) (Or.inr ⟨by rfl, rfl⟩) hS1 ?restB14
  try simp only [Act.put, List.setIfInBounds_toArray, List.set_cons_zero, List.set_cons_succ]
  refine takeH 15 (oi := ⟨some 20, _, _, _, _, _⟩) (v := undef) rfl (by kernel_rfl) (by kernel_rfl) (by kernel_rfl) (fun _ _ _ h => h) (Or.inr ⟨by rfl, rfl⟩) hS1 ?restB15
  try simp only [Act.put, List.setIfInBounds_toArray, List.set_cons_zero, List.set_cons_succ]
  refine takeH 16 (oi := ⟨some 21, _, _, _, _, _⟩) (v := ?_) rfl (by kernel_rfl) (by kernel_rfl) (by kernel_rfl) (fun _ _ _ h => h) (Or.inl ⟨by rfl, ?hyB16⟩) hS1 ?restB16
  case hyB16 => (intro W hW; (try dsimp only at hW); go_simp; try with_reducible rfl)
  try simp only [Act.put, List.setIfInBounds_toArray, List.set_cons_zero, List.set_cons_succ]
  refine takeH 17 (oi := ⟨some 4, _, _, _, _, _⟩) (v := ?_) rfl (by kernel_rfl) (by kernel_rfl) (by kernel_rfl) (fun _ _ _ h => h) (Or.inl ⟨by rfl, ?hyB17⟩) hS1 ?restB17
  case hyB17 => (intro W hW; (try dsimp only at hW); go_simp; try with_reducible rfl)
  try simp only [Act.put, List.setIfInBounds_toArray, List.set_cons_zero, List.set_cons_succ]
  refine wpAnyH_done (by kernel_rfl) ?_ _
  clear a0 a1 a2 b0 b1 b2
  go_wp2_with fail
  go_ret
  exact ⟨rfl, HB1.out.trans (hS1.mono HB1.out.size)⟩
set_option maxHeartbeats 2000000 in
set_option maxRecDepth 20000 in
theorem raw3a (k n : Int) (s : ByteArray) (k2 n2 : Int) (s2 : ByteArray) (w : World) (hs : decide (k < 0 ∨ k > 7) = false) (hk : k = k2) (hN : (ownN k n = ownN k2 n2) = False) : Calls Tryd.prog 70 #[.agg #[.int .i64 k, .int .i64 n, .string s], .agg #[.int .i64 k2, .int .i64 n2, .string s2]] w fun e w' => e = .returned (.bool false) ∧ Below w.heap.size w w' := by
  have HS := Lib.hid (fun W => hStrange k n s W)
  rw [hs] at HS
  have HO1 := Lib.hid (fun W => hOwn k n s W)
  have HO2 := Lib.hid (fun W => hOwn k2 n2 s2 W)
  subst hk
  have hq : (k == k) = true := by simp
  clear hs
  go_enter Tryd.func70, Tryd.ntmps70
  go_upto_region 1 with (fail)
  obtain ⟨w1, hw1⟩ : ∃ z, z = (w.alloc (.cells #[.int .i64 k, .int .i64 n, .string s] 32)).alloc (.cells #[.int .i64 k, .int .i64 n2, .string s2] 32) := ⟨_, rfl⟩
  have HB1 : Hid (Below w.heap.size w w1) := Lib.hid (by rw [hw1]; exact bel2 _ _ _)
  have HA : Hid (Blk w1 w.heap.size 32 [.int .i64 k, .int .i64 n, .string s]) := Lib.hid (by rw [hw1]; exact (Blk.new w [.int .i64 k, .int .i64 n, .string s] _).alloc _)
  have HK2 : Hid (Blk w1 (w.heap.size + 1) 32 [.int .i64 k, .int .i64 n2, .string s2]) := Lib.hid (by rw [hw1]; simpa using Blk.new (w.alloc (.cells #[.int .i64 k, .int .i64 n, .string s] 32)) [.int .i64 k, .int .i64 n2, .string s2] 32)
  rw [← hw1]
  clear hw1
  have hu := Tryd.underlying32
  have hB0 : Below w1.heap.size w1 ({ w1 with drawn := w1.drawn + 1 } : World) := ⟨rfl, rfl, rfl, Nat.le_refl _, fun _ _ => rfl⟩
  refine wp_region_held (S := Below w1.heap.size w1) (by kernel_rfl) ?_
  have hS0 := hB0
  generalize ({ w1 with drawn := w1.drawn + 1 } : World) = w2 at hS0 hB0 ⊢
  have a0 : ∀ W, Below w1.heap.size w1 W → W.cell? ⟨w.heap.size, 0, none⟩ = some (.int .i64 k) := fun W hW => (HA.out.of (hW.block _ HA.out.lt)).cell 0 _ rfl
  have a1 : ∀ W, Below w1.heap.size w1 W → W.cell? ⟨w.heap.size, 1, none⟩ = some (.int .i64 n) := fun W hW => (HA.out.of (hW.block _ HA.out.lt)).cell 1 _ rfl
  have a2 : ∀ W, Below w1.heap.size w1 W → W.cell? ⟨w.heap.size, 2, none⟩ = some (.string s) := fun W hW => (HA.out.of (hW.block _ HA.out.lt)).cell 2 _ rfl
  have b0 : ∀ W, Below w1.heap.size w1 W → W.cell? ⟨w.heap.size + 1, 0, none⟩ = some (.int .i64 k) := fun W hW => (HK2.out.of (hW.block _ HK2.out.lt)).cell 0 _ rfl
  have b1 : ∀ W, Below w1.heap.size w1 W → W.cell? ⟨w.heap.size + 1, 1, none⟩ = some (.int .i64 n2) := fun W hW => (HK2.out.of (hW.block _ HK2.out.lt)).cell 1 _ rfl
  have b2 : ∀ W, Below w1.heap.size w1 W → W.cell? ⟨w.heap.size + 1, 2, none⟩ = some (.string s2) := fun W hW => (HK2.out.of (hW.block _ HK2.out.lt)).cell 2 _ rfl
  refine takeH 0 (oi := ⟨some 5, _, _, _, _, _⟩) (v := ?_) rfl (by kernel_rfl) (by kernel_rfl) (by kernel_rfl) (fun _ _ _ h => h) (Or.inl ⟨by rfl, ?hyD0⟩) hS0 ?restD0
  case hyD0 => (intro W hW; (try dsimp only at hW); go_simp; try with_reducible rfl)
  try simp only [Act.put, List.setIfInBounds_toArray, List.set_cons_zero, List.set_cons_succ]
  refine one (i := 1) (by kernel_rfl) ?_
  refine wpOp_wanted rfl (by rfl) fun K hK => ?_
  go_simp
  with_reducible refine (HS.out _).mono ?_
  rintro e wn ⟨rfl, hb⟩
  have hS1 : Below w1.heap.size w1 wn := hS0.trans (hb.mono hS0.size)
  clear hb
  refine hK _ _ ⟨hS1, ?_⟩
  clear hK K
  try simp only [Act.put, List.setIfInBounds_toArray, List.set_cons_zero, List.set_cons_succ]
  refine takeH 2 (oi := ⟨some 7, _, _, _, _, _⟩) (v := ?_) rfl (by kernel_rfl) (by kernel_rfl) (by kernel_rfl) (fun _ _ _ h => h) (Or.inl ⟨by rfl, ?hyD2⟩) hS1 ?restD2
  case hyD2 => (intro W hW; (try dsimp only at hW); go_simp; try with_reducible rfl)
  try simp only [Act.put, List.setIfInBounds_toArray, List.set_cons_zero, List.set_cons_succ]
  refine takeH 3 (oi := ⟨some 8, _, _, _, _, _⟩) (v := ?_) rfl (by kernel_rfl) (by kernel_rfl) (by kernel_rfl) (fun _ _ _ h => h) (Or.inl ⟨by rfl, ?hyD3⟩) hS1 ?restD3
  case hyD3 => (intro W hW; (try dsimp only at hW); go_simp; try with_reducible rfl)
  try simp only [Act.put, List.setIfInBounds_toArray, List.set_cons_zero, List.set_cons_succ]
  refine takeH 4 (oi := ⟨some 9, _, _, _, _, _⟩) (v := ?_) rfl (by kernel_rfl) (by kernel_rfl) (by kernel_rfl) (fun _ _ _ h => h) (Or.inl ⟨by rfl, ?hyD4⟩) hS1 ?restD4
  case hyD4 => (intro W hW; (try dsimp only at hW); go_simp; try with_reducible rfl)
  try simp only [Act.put, List.setIfInBounds_toArray, List.set_cons_zero, List.set_cons_succ]
  refine takeH 5 (oi := ⟨some 10, _, _, _, _, _⟩) (v := ?_) rfl (by kernel_rfl) (by kernel_rfl) (by kernel_rfl) (fun _ _ _ h => h) (Or.inl ⟨by rfl, ?hyD5⟩) hS1 ?restD5
  case hyD5 => (intro W hW; (try dsimp only at hW); go_simp; try with_reducible rfl)
  try simp only [Act.put, List.setIfInBounds_toArray, List.set_cons_zero, List.set_cons_succ]
  refine takeH 6 (oi := ⟨some 11, _, _, _, _, _⟩) (v := ?_) rfl (by kernel_rfl) (by kernel_rfl) (by kernel_rfl) (fun _ _ _ h => h) (Or.inl ⟨by rfl, ?hyD6⟩) hS1 ?restD6
  case hyD6 => (intro W hW; (try dsimp only at hW); go_simp; try with_reducible rfl)
  try simp only [Act.put, List.setIfInBounds_toArray, List.set_cons_zero, List.set_cons_succ]
  refine takeH 7 (oi := ⟨some 12, _, _, _, _, _⟩) (v := ?_) rfl (by kernel_rfl) (by kernel_rfl) (by kernel_rfl) (fun _ _ _ h => h) (Or.inl ⟨by rfl, ?hyD7⟩) hS1 ?restD7
  case hyD7 => (intro W hW; (try dsimp only at hW); go_simp; try with_reducible rfl)
  try simp only [Act.put, List.setIfInBounds_toArray, List.set_cons_zero, List.set_cons_succ]
  refine takeH 8 (oi := ⟨some 13, _, _, _, _, _⟩) (v := ?_) rfl (by kernel_rfl) (by kernel_rfl) (by kernel_rfl) (fun _ _ _ h => h) (Or.inl ⟨by rfl, ?hyD8⟩) hS1 ?restD8
  case hyD8 => (intro W hW; (try dsimp only at hW); go_simp; try with_reducible rfl)
  try simp only [Act.put, List.setIfInBounds_toArray, List.set_cons_zero, List.set_cons_succ]
  refine takeH 9 (oi := ⟨some 14, _, _, _, _, _⟩) (v := ?_) rfl (by kernel_rfl) (by kernel_rfl) (by kernel_rfl) (fun _ _ _ h => h) (Or.inl ⟨by rfl, ?hyD9⟩) hS1 ?restD9
  case hyD9 => (intro W hW; (try dsimp only at hW); go_simp; try with_reducible rfl)
  try simp only [Act.put, List.setIfInBounds_toArray, List.set_cons_zero, List.set_cons_succ]
  refine takeH 10 (oi := ⟨some 15, _, _, _, _, _⟩) (v := ?_) rfl (by kernel_rfl) (by kernel_rfl) (by kernel_rfl) (fun _ _ _ h => h) (Or.inl ⟨by rfl, ?hyD10⟩) hS1 ?restD10
  case hyD10 => (intro W hW; (try dsimp only at hW); go_simp; try with_reducible rfl)
  try simp only [Act.put, List.setIfInBounds_toArray, List.set_cons_zero, List.set_cons_succ]
  refine takeH 11 (oi := ⟨some 16, _, _, _, _, _⟩) (v := ?_) rfl (by kernel_rfl) (by kernel_rfl) (by kernel_rfl) (fun _ _ _ h => h) (Or.inl ⟨by rfl, ?hyD11⟩) hS1 ?restD11
  case hyD11 => (intro W hW; (try dsimp only at hW); go_simp; try with_reducible rfl)
  try simp only [Act.put, List.setIfInBounds_toArray, List.set_cons_zero, List.set_cons_succ]
  refine takeH 13 (oi := ⟨some 18, _, _, _, _, _⟩) (v := ?_) rfl (by kernel_rfl) (by kernel_rfl) (by kernel_rfl) (fun _ _ _ h => h) (Or.inl ⟨by rfl, ?hyD13⟩) hS1 ?restD13
  case hyD13 => (intro W hW; (try dsimp only at hW); go_simp; try with_reducible rfl)
  try simp only [Act.put, List.setIfInBounds_toArray, List.set_cons_zero, List.set_cons_succ]
  refine one (i := 12) (by kernel_rfl) ?_
  refine wpOp_wanted rfl (by rfl) fun K hK => ?_
  go_simp
  with_reducible refine (HO1.out _).mono ?_
  rintro e wn ⟨rfl, hb⟩
  have hS2 : Below w1.heap.size w1 wn := hS1.trans (hb.mono hS1.size)
  clear hb
  refine hK _ _ ⟨hS2, ?_⟩
  clear hK K
  try simp only [Act.put, List.setIfInBounds_toArray, List.set_cons_zero, List.set_cons_succ]
  refine one (i := 14) (by kernel_rfl) ?_
  refine wpOp_wanted rfl (by rfl) fun K hK => ?_
  go_simp
  with_reducible refine (HO2.out _).mono ?_
  rintro e wn ⟨rfl, hb⟩
  have hS3 : Below w1.heap.size w1 wn := hS2.trans (hb.mono hS2.size)
  clear hb
  refine hK _ _ ⟨hS3, ?_⟩
  clear hK K
  try simp only [Act.put, List.setIfInBounds_toArray, List.set_cons_zero, List.set_cons_succ]
  refine takeH 15 (oi := ⟨some 20, _, _, _, _, _⟩) (v := ?_) rfl (by kernel_rfl) (by kernel_rfl) (by kernel_rfl) (fun _ _ _ h => h) (Or.inl ⟨by rfl, ?hyD15⟩) hS3 ?restD15
  case hyD15 => (intro W hW; (try dsimp only at hW); go_simp; try with_reducible rfl)
  try simp only [Act.put, List.setIfInBounds_toArray, List.set_cons_zero, List.set_cons_succ]
  refine takeH 16 (oi := ⟨some 21, _, _, _, _, _⟩) (v := ?_) rfl (by kernel_rfl) (by kernel_rfl) (by kernel_rfl) (fun _ _ _ h => h) (Or.inl ⟨by rfl, ?hyD16⟩) hS3 ?restD16
  case hyD16 => (intro W hW; (try dsimp only at hW); go_simp; try with_reducible rfl)
  try simp only [Act.put, List.setIfInBounds_toArray, List.set_cons_zero, List.set_cons_succ]
  refine takeH 17 (oi := ⟨some 4, _, _, _, _, _⟩) (v := ?_) rfl (by kernel_rfl) (by kernel_rfl) (by kernel_rfl) (fun _ _ _ h => h) (Or.inl ⟨by rfl, ?hyD17⟩) hS3 ?restD17
  case hyD17 => (intro W hW; (try dsimp only at hW); go_simp; try with_reducible rfl)
  try simp only [Act.put, List.setIfInBounds_toArray, List.set_cons_zero, List.set_cons_succ]
  refine wpAnyH_done (by kernel_rfl) ?_ _
  clear a0 a1 a2 b0 b1 b2
  go_wp2_with fail
  go_ret
  exact ⟨rfl, HB1.out.trans (hS3.mono HB1.out.size)⟩
set_option maxHeartbeats 2000000 in
set_option maxRecDepth 20000 in
theorem raw3b (k n : Int) (s : ByteArray) (k2 n2 : Int) (s2 : ByteArray) (w : World) (hs : decide (k < 0 ∨ k > 7) = false) (hk : k = k2) (hN : (ownN k n = ownN k2 n2) = True) (hS : ((ownS k s).toList = (ownS k2 s2).toList) = False) : Calls Tryd.prog 70 #[.agg #[.int .i64 k, .int .i64 n, .string s], .agg #[.int .i64 k2, .int .i64 n2, .string s2]] w fun e w' => e = .returned (.bool false) ∧ Below w.heap.size w w' := by
  have HS := Lib.hid (fun W => hStrange k n s W)
  rw [hs] at HS
  have HO1 := Lib.hid (fun W => hOwn k n s W)
  have HO2 := Lib.hid (fun W => hOwn k2 n2 s2 W)
  subst hk
  have hq : (k == k) = true := by simp
  clear hs
  go_enter Tryd.func70, Tryd.ntmps70
  go_upto_region 1 with (fail)
  obtain ⟨w1, hw1⟩ : ∃ z, z = (w.alloc (.cells #[.int .i64 k, .int .i64 n, .string s] 32)).alloc (.cells #[.int .i64 k, .int .i64 n2, .string s2] 32) := ⟨_, rfl⟩
  have HB1 : Hid (Below w.heap.size w w1) := Lib.hid (by rw [hw1]; exact bel2 _ _ _)
  have HA : Hid (Blk w1 w.heap.size 32 [.int .i64 k, .int .i64 n, .string s]) := Lib.hid (by rw [hw1]; exact (Blk.new w [.int .i64 k, .int .i64 n, .string s] _).alloc _)
  have HK2 : Hid (Blk w1 (w.heap.size + 1) 32 [.int .i64 k, .int .i64 n2, .string s2]) := Lib.hid (by rw [hw1]; simpa using Blk.new (w.alloc (.cells #[.int .i64 k, .int .i64 n, .string s] 32)) [.int .i64 k, .int .i64 n2, .string s2] 32)
  rw [← hw1]
  clear hw1
  have hu := Tryd.underlying32
  have hB0 : Below w1.heap.size w1 ({ w1 with drawn := w1.drawn + 1 } : World) := ⟨rfl, rfl, rfl, Nat.le_refl _, fun _ _ => rfl⟩
  refine wp_region_held (S := Below w1.heap.size w1) (by kernel_rfl) ?_
  have hS0 := hB0
  generalize ({ w1 with drawn := w1.drawn + 1 } : World) = w2 at hS0 hB0 ⊢
  have a0 : ∀ W, Below w1.heap.size w1 W → W.cell? ⟨w.heap.size, 0, none⟩ = some (.int .i64 k) := fun W hW => (HA.out.of (hW.block _ HA.out.lt)).cell 0 _ rfl
  have a1 : ∀ W, Below w1.heap.size w1 W → W.cell? ⟨w.heap.size, 1, none⟩ = some (.int .i64 n) := fun W hW => (HA.out.of (hW.block _ HA.out.lt)).cell 1 _ rfl
  have a2 : ∀ W, Below w1.heap.size w1 W → W.cell? ⟨w.heap.size, 2, none⟩ = some (.string s) := fun W hW => (HA.out.of (hW.block _ HA.out.lt)).cell 2 _ rfl
  have b0 : ∀ W, Below w1.heap.size w1 W → W.cell? ⟨w.heap.size + 1, 0, none⟩ = some (.int .i64 k) := fun W hW => (HK2.out.of (hW.block _ HK2.out.lt)).cell 0 _ rfl
  have b1 : ∀ W, Below w1.heap.size w1 W → W.cell? ⟨w.heap.size + 1, 1, none⟩ = some (.int .i64 n2) := fun W hW => (HK2.out.of (hW.block _ HK2.out.lt)).cell 1 _ rfl
  have b2 : ∀ W, Below w1.heap.size w1 W → W.cell? ⟨w.heap.size + 1, 2, none⟩ = some (.string s2) := fun W hW => (HK2.out.of (hW.block _ HK2.out.lt)).cell 2 _ rfl
  refine takeH 0 (oi := ⟨some 5, _, _, _, _, _⟩) (v := ?_) rfl (by kernel_rfl) (by kernel_rfl) (by kernel_rfl) (fun _ _ _ h => h) (Or.inl ⟨by rfl, ?hyD0⟩) hS0 ?restD0
  case hyD0 => (intro W hW; (try dsimp only at hW); go_simp; try with_reducible rfl)
  try simp only [Act.put, List.setIfInBounds_toArray, List.set_cons_zero, List.set_cons_succ]
  refine one (i := 1) (by kernel_rfl) ?_
  refine wpOp_wanted rfl (by rfl) fun K hK => ?_
  go_simp
  with_reducible refine (HS.out _).mono ?_
  rintro e wn ⟨rfl, hb⟩
  have hS1 : Below w1.heap.size w1 wn := hS0.trans (hb.mono hS0.size)
  clear hb
  refine hK _ _ ⟨hS1, ?_⟩
  clear hK K
  try simp only [Act.put, List.setIfInBounds_toArray, List.set_cons_zero, List.set_cons_succ]
  refine takeH 2 (oi := ⟨some 7, _, _, _, _, _⟩) (v := ?_) rfl (by kernel_rfl) (by kernel_rfl) (by kernel_rfl) (fun _ _ _ h => h) (Or.inl ⟨by rfl, ?hyD2⟩) hS1 ?restD2
  case hyD2 => (intro W hW; (try dsimp only at hW); go_simp; try with_reducible rfl)
  try simp only [Act.put, List.setIfInBounds_toArray, List.set_cons_zero, List.set_cons_succ]
  refine takeH 3 (oi := ⟨some 8, _, _, _, _, _⟩) (v := ?_) rfl (by kernel_rfl) (by kernel_rfl) (by kernel_rfl) (fun _ _ _ h => h) (Or.inl ⟨by rfl, ?hyD3⟩) hS1 ?restD3
  case hyD3 => (intro W hW; (try dsimp only at hW); go_simp; try with_reducible rfl)
  try simp only [Act.put, List.setIfInBounds_toArray, List.set_cons_zero, List.set_cons_succ]
  refine takeH 4 (oi := ⟨some 9, _, _, _, _, _⟩) (v := ?_) rfl (by kernel_rfl) (by kernel_rfl) (by kernel_rfl) (fun _ _ _ h => h) (Or.inl ⟨by rfl, ?hyD4⟩) hS1 ?restD4
  case hyD4 => (intro W hW; (try dsimp only at hW); go_simp; try with_reducible rfl)
  try simp only [Act.put, List.setIfInBounds_toArray, List.set_cons_zero, List.set_cons_succ]
  refine takeH 5 (oi := ⟨some 10, _, _, _, _, _⟩) (v := ?_) rfl (by kernel_rfl) (by kernel_rfl) (by kernel_rfl) (fun _ _ _ h => h) (Or.inl ⟨by rfl, ?hyD5⟩) hS1 ?restD5
  case hyD5 => (intro W hW; (try dsimp only at hW); go_simp; try with_reducible rfl)
  try simp only [Act.put, List.setIfInBounds_toArray, List.set_cons_zero, List.set_cons_succ]
  refine takeH 6 (oi := ⟨some 11, _, _, _, _, _⟩) (v := ?_) rfl (by kernel_rfl) (by kernel_rfl) (by kernel_rfl) (fun _ _ _ h => h) (Or.inl ⟨by rfl, ?hyD6⟩) hS1 ?restD6
  case hyD6 => (intro W hW; (try dsimp only at hW); go_simp; try with_reducible rfl)
  try simp only [Act.put, List.setIfInBounds_toArray, List.set_cons_zero, List.set_cons_succ]
  refine takeH 7 (oi := ⟨some 12, _, _, _, _, _⟩) (v := ?_) rfl (by kernel_rfl) (by kernel_rfl) (by kernel_rfl) (fun _ _ _ h => h) (Or.inl ⟨by rfl, ?hyD7⟩) hS1 ?restD7
  case hyD7 => (intro W hW; (try dsimp only at hW); go_simp; try with_reducible rfl)
  try simp only [Act.put, List.setIfInBounds_toArray, List.set_cons_zero, List.set_cons_succ]
  refine takeH 8 (oi := ⟨some 13, _, _, _, _, _⟩) (v := ?_) rfl (by kernel_rfl) (by kernel_rfl) (by kernel_rfl) (fun _ _ _ h => h) (Or.inl ⟨by rfl, ?hyD8⟩) hS1 ?restD8
  case hyD8 => (intro W hW; (try dsimp only at hW); go_simp; try with_reducible rfl)
  try simp only [Act.put, List.setIfInBounds_toArray, List.set_cons_zero, List.set_cons_succ]
  refine takeH 9 (oi := ⟨some 14, _, _, _, _, _⟩) (v := ?_) rfl (by kernel_rfl) (by kernel_rfl) (by kernel_rfl) (fun _ _ _ h => h) (Or.inl ⟨by rfl, ?hyD9⟩) hS1 ?restD9
  case hyD9 => (intro W hW; (try dsimp only at hW); go_simp; try with_reducible rfl)
  try simp only [Act.put, List.setIfInBounds_toArray, List.set_cons_zero, List.set_cons_succ]
  refine takeH 10 (oi := ⟨some 15, _, _, _, _, _⟩) (v := ?_) rfl (by kernel_rfl) (by kernel_rfl) (by kernel_rfl) (fun _ _ _ h => h) (Or.inl ⟨by rfl, ?hyD10⟩) hS1 ?restD10
  case hyD10 => (intro W hW; (try dsimp only at hW); go_simp; try with_reducible rfl)
  try simp only [Act.put, List.setIfInBounds_toArray, List.set_cons_zero, List.set_cons_succ]
  refine takeH 11 (oi := ⟨some 16, _, _, _, _, _⟩) (v := ?_) rfl (by kernel_rfl) (by kernel_rfl) (by kernel_rfl) (fun _ _ _ h => h) (Or.inl ⟨by rfl, ?hyD11⟩) hS1 ?restD11
  case hyD11 => (intro W hW; (try dsimp only at hW); go_simp; try with_reducible rfl)
  try simp only [Act.put, List.setIfInBounds_toArray, List.set_cons_zero, List.set_cons_succ]
  refine takeH 13 (oi := ⟨some 18, _, _, _, _, _⟩) (v := ?_) rfl (by kernel_rfl) (by kernel_rfl) (by kernel_rfl) (fun _ _ _ h => h) (Or.inl ⟨by rfl, ?hyD13⟩) hS1 ?restD13
  case hyD13 => (intro W hW; (try dsimp only at hW); go_simp; try with_reducible rfl)
  try simp only [Act.put, List.setIfInBounds_toArray, List.set_cons_zero, List.set_cons_succ]
  refine one (i := 12) (by kernel_rfl) ?_
  refine wpOp_wanted rfl (by rfl) fun K hK => ?_
  go_simp
  with_reducible refine (HO1.out _).mono ?_
  rintro e wn ⟨rfl, hb⟩
  have hS2 : Below w1.heap.size w1 wn := hS1.trans (hb.mono hS1.size)
  clear hb
  refine hK _ _ ⟨hS2, ?_⟩
  clear hK K
  try simp only [Act.put, List.setIfInBounds_toArray, List.set_cons_zero, List.set_cons_succ]
  refine one (i := 14) (by kernel_rfl) ?_
  refine wpOp_wanted rfl (by rfl) fun K hK => ?_
  go_simp
  with_reducible refine (HO2.out _).mono ?_
  rintro e wn ⟨rfl, hb⟩
  have hS3 : Below w1.heap.size w1 wn := hS2.trans (hb.mono hS2.size)
  clear hb
  refine hK _ _ ⟨hS3, ?_⟩
  clear hK K
  try simp only [Act.put, List.setIfInBounds_toArray, List.set_cons_zero, List.set_cons_succ]
  refine takeH 15 (oi := ⟨some 20, _, _, _, _, _⟩) (v := ?_) rfl (by kernel_rfl) (by kernel_rfl) (by kernel_rfl) (fun _ _ _ h => h) (Or.inl ⟨by rfl, ?hyD15⟩) hS3 ?restD15
  case hyD15 => (intro W hW; (try dsimp only at hW); go_simp; try with_reducible rfl)
  try simp only [Act.put, List.setIfInBounds_toArray, List.set_cons_zero, List.set_cons_succ]
  refine takeH 16 (oi := ⟨some 21, _, _, _, _, _⟩) (v := ?_) rfl (by kernel_rfl) (by kernel_rfl) (by kernel_rfl) (fun _ _ _ h => h) (Or.inl ⟨by rfl, ?hyD16⟩) hS3 ?restD16
  case hyD16 => (intro W hW; (try dsimp only at hW); go_simp; try with_reducible rfl)
  try simp only [Act.put, List.setIfInBounds_toArray, List.set_cons_zero, List.set_cons_succ]
  refine takeH 17 (oi := ⟨some 4, _, _, _, _, _⟩) (v := ?_) rfl (by kernel_rfl) (by kernel_rfl) (by kernel_rfl) (fun _ _ _ h => h) (Or.inl ⟨by rfl, ?hyD17⟩) hS3 ?restD17
  case hyD17 => (intro W hW; (try dsimp only at hW); go_simp; try with_reducible rfl)
  try simp only [Act.put, List.setIfInBounds_toArray, List.set_cons_zero, List.set_cons_succ]
  refine wpAnyH_done (by kernel_rfl) ?_ _
  clear a0 a1 a2 b0 b1 b2
  go_wp2_with fail
  go_ret
  exact ⟨rfl, HB1.out.trans (hS3.mono HB1.out.size)⟩
set_option maxHeartbeats 2000000 in
set_option maxRecDepth 20000 in
theorem raw3c (k n : Int) (s : ByteArray) (k2 n2 : Int) (s2 : ByteArray) (w : World) (hs : decide (k < 0 ∨ k > 7) = false) (hk : k = k2) (hN : (ownN k n = ownN k2 n2) = True) (hS : ((ownS k s).toList = (ownS k2 s2).toList) = True) : Calls Tryd.prog 70 #[.agg #[.int .i64 k, .int .i64 n, .string s], .agg #[.int .i64 k2, .int .i64 n2, .string s2]] w fun e w' => e = .returned (.bool true) ∧ Below w.heap.size w w' := by
  have HS := Lib.hid (fun W => hStrange k n s W)
  rw [hs] at HS
  have HO1 := Lib.hid (fun W => hOwn k n s W)
  have HO2 := Lib.hid (fun W => hOwn k2 n2 s2 W)
  subst hk
  have hq : (k == k) = true := by simp
  clear hs
  go_enter Tryd.func70, Tryd.ntmps70
  go_upto_region 1 with (fail)
  obtain ⟨w1, hw1⟩ : ∃ z, z = (w.alloc (.cells #[.int .i64 k, .int .i64 n, .string s] 32)).alloc (.cells #[.int .i64 k, .int .i64 n2, .string s2] 32) := ⟨_, rfl⟩
  have HB1 : Hid (Below w.heap.size w w1) := Lib.hid (by rw [hw1]; exact bel2 _ _ _)
  have HA : Hid (Blk w1 w.heap.size 32 [.int .i64 k, .int .i64 n, .string s]) := Lib.hid (by rw [hw1]; exact (Blk.new w [.int .i64 k, .int .i64 n, .string s] _).alloc _)
  have HK2 : Hid (Blk w1 (w.heap.size + 1) 32 [.int .i64 k, .int .i64 n2, .string s2]) := Lib.hid (by rw [hw1]; simpa using Blk.new (w.alloc (.cells #[.int .i64 k, .int .i64 n, .string s] 32)) [.int .i64 k, .int .i64 n2, .string s2] 32)
  rw [← hw1]
  clear hw1
  have hu := Tryd.underlying32
  have hB0 : Below w1.heap.size w1 ({ w1 with drawn := w1.drawn + 1 } : World) := ⟨rfl, rfl, rfl, Nat.le_refl _, fun _ _ => rfl⟩
  refine wp_region_held (S := Below w1.heap.size w1) (by kernel_rfl) ?_
  have hS0 := hB0
  generalize ({ w1 with drawn := w1.drawn + 1 } : World) = w2 at hS0 hB0 ⊢
  have a0 : ∀ W, Below w1.heap.size w1 W → W.cell? ⟨w.heap.size, 0, none⟩ = some (.int .i64 k) := fun W hW => (HA.out.of (hW.block _ HA.out.lt)).cell 0 _ rfl
  have a1 : ∀ W, Below w1.heap.size w1 W → W.cell? ⟨w.heap.size, 1, none⟩ = some (.int .i64 n) := fun W hW => (HA.out.of (hW.block _ HA.out.lt)).cell 1 _ rfl
  have a2 : ∀ W, Below w1.heap.size w1 W → W.cell? ⟨w.heap.size, 2, none⟩ = some (.string s) := fun W hW => (HA.out.of (hW.block _ HA.out.lt)).cell 2 _ rfl
  have b0 : ∀ W, Below w1.heap.size w1 W → W.cell? ⟨w.heap.size + 1, 0, none⟩ = some (.int .i64 k) := fun W hW => (HK2.out.of (hW.block _ HK2.out.lt)).cell 0 _ rfl
  have b1 : ∀ W, Below w1.heap.size w1 W → W.cell? ⟨w.heap.size + 1, 1, none⟩ = some (.int .i64 n2) := fun W hW => (HK2.out.of (hW.block _ HK2.out.lt)).cell 1 _ rfl
  have b2 : ∀ W, Below w1.heap.size w1 W → W.cell? ⟨w.heap.size + 1, 2, none⟩ = some (.string s2) := fun W hW => (HK2.out.of (hW.block _ HK2.out.lt)).cell 2 _ rfl
  refine takeH 0 (oi := ⟨some 5, _, _, _, _, _⟩) (v := ?_) rfl (by kernel_rfl) (by kernel_rfl) (by kernel_rfl) (fun _ _ _ h => h) (Or.inl ⟨by rfl, ?hyD0⟩) hS0 ?restD0
  case hyD0 => (intro W hW; (try dsimp only at hW); go_simp; try with_reducible rfl)
  try simp only [Act.put, List.setIfInBounds_toArray, List.set_cons_zero, List.set_cons_succ]
  refine one (i := 1) (by kernel_rfl) ?_
  refine wpOp_wanted rfl (by rfl) fun K hK => ?_
  go_simp
  with_reducible refine (HS.out _).mono ?_
  rintro e wn ⟨rfl, hb⟩
  have hS1 : Below w1.heap.size w1 wn := hS0.trans (hb.mono hS0.size)
  clear hb
  refine hK _ _ ⟨hS1, ?_⟩
  clear hK K
  try simp only [Act.put, List.setIfInBounds_toArray, List.set_cons_zero, List.set_cons_succ]
  refine takeH 2 (oi := ⟨some 7, _, _, _, _, _⟩) (v := ?_) rfl (by kernel_rfl) (by kernel_rfl) (by kernel_rfl) (fun _ _ _ h => h) (Or.inl ⟨by rfl, ?hyD2⟩) hS1 ?restD2
  case hyD2 => (intro W hW; (try dsimp only at hW); go_simp; try with_reducible rfl)
  try simp only [Act.put, List.setIfInBounds_toArray, List.set_cons_zero, List.set_cons_succ]
  refine takeH 3 (oi := ⟨some 8, _, _, _, _, _⟩) (v := ?_) rfl (by kernel_rfl) (by kernel_rfl) (by kernel_rfl) (fun _ _ _ h => h) (Or.inl ⟨by rfl, ?hyD3⟩) hS1 ?restD3
  case hyD3 => (intro W hW; (try dsimp only at hW); go_simp; try with_reducible rfl)
  try simp only [Act.put, List.setIfInBounds_toArray, List.set_cons_zero, List.set_cons_succ]
  refine takeH 4 (oi := ⟨some 9, _, _, _, _, _⟩) (v := ?_) rfl (by kernel_rfl) (by kernel_rfl) (by kernel_rfl) (fun _ _ _ h => h) (Or.inl ⟨by rfl, ?hyD4⟩) hS1 ?restD4
  case hyD4 => (intro W hW; (try dsimp only at hW); go_simp; try with_reducible rfl)
  try simp only [Act.put, List.setIfInBounds_toArray, List.set_cons_zero, List.set_cons_succ]
  refine takeH 5 (oi := ⟨some 10, _, _, _, _, _⟩) (v := ?_) rfl (by kernel_rfl) (by kernel_rfl) (by kernel_rfl) (fun _ _ _ h => h) (Or.inl ⟨by rfl, ?hyD5⟩) hS1 ?restD5
  case hyD5 => (intro W hW; (try dsimp only at hW); go_simp; try with_reducible rfl)
  try simp only [Act.put, List.setIfInBounds_toArray, List.set_cons_zero, List.set_cons_succ]
  refine takeH 6 (oi := ⟨some 11, _, _, _, _, _⟩) (v := ?_) rfl (by kernel_rfl) (by kernel_rfl) (by kernel_rfl) (fun _ _ _ h => h) (Or.inl ⟨by rfl, ?hyD6⟩) hS1 ?restD6
  case hyD6 => (intro W hW; (try dsimp only at hW); go_simp; try with_reducible rfl)
  try simp only [Act.put, List.setIfInBounds_toArray, List.set_cons_zero, List.set_cons_succ]
  refine takeH 7 (oi := ⟨some 12, _, _, _, _, _⟩) (v := ?_) rfl (by kernel_rfl) (by kernel_rfl) (by kernel_rfl) (fun _ _ _ h => h) (Or.inl ⟨by rfl, ?hyD7⟩) hS1 ?restD7
  case hyD7 => (intro W hW; (try dsimp only at hW); go_simp; try with_reducible rfl)
  try simp only [Act.put, List.setIfInBounds_toArray, List.set_cons_zero, List.set_cons_succ]
  refine takeH 8 (oi := ⟨some 13, _, _, _, _, _⟩) (v := ?_) rfl (by kernel_rfl) (by kernel_rfl) (by kernel_rfl) (fun _ _ _ h => h) (Or.inl ⟨by rfl, ?hyD8⟩) hS1 ?restD8
  case hyD8 => (intro W hW; (try dsimp only at hW); go_simp; try with_reducible rfl)
  try simp only [Act.put, List.setIfInBounds_toArray, List.set_cons_zero, List.set_cons_succ]
  refine takeH 9 (oi := ⟨some 14, _, _, _, _, _⟩) (v := ?_) rfl (by kernel_rfl) (by kernel_rfl) (by kernel_rfl) (fun _ _ _ h => h) (Or.inl ⟨by rfl, ?hyD9⟩) hS1 ?restD9
  case hyD9 => (intro W hW; (try dsimp only at hW); go_simp; try with_reducible rfl)
  try simp only [Act.put, List.setIfInBounds_toArray, List.set_cons_zero, List.set_cons_succ]
  refine takeH 10 (oi := ⟨some 15, _, _, _, _, _⟩) (v := ?_) rfl (by kernel_rfl) (by kernel_rfl) (by kernel_rfl) (fun _ _ _ h => h) (Or.inl ⟨by rfl, ?hyD10⟩) hS1 ?restD10
  case hyD10 => (intro W hW; (try dsimp only at hW); go_simp; try with_reducible rfl)
  try simp only [Act.put, List.setIfInBounds_toArray, List.set_cons_zero, List.set_cons_succ]
  refine takeH 11 (oi := ⟨some 16, _, _, _, _, _⟩) (v := ?_) rfl (by kernel_rfl) (by kernel_rfl) (by kernel_rfl) (fun _ _ _ h => h) (Or.inl ⟨by rfl, ?hyD11⟩) hS1 ?restD11
  case hyD11 => (intro W hW; (try dsimp only at hW); go_simp; try with_reducible rfl)
  try simp only [Act.put, List.setIfInBounds_toArray, List.set_cons_zero, List.set_cons_succ]
  refine takeH 13 (oi := ⟨some 18, _, _, _, _, _⟩) (v := ?_) rfl (by kernel_rfl) (by kernel_rfl) (by kernel_rfl) (fun _ _ _ h => h) (Or.inl ⟨by rfl, ?hyD13⟩) hS1 ?restD13
  case hyD13 => (intro W hW; (try dsimp only at hW); go_simp; try with_reducible rfl)
  try simp only [Act.put, List.setIfInBounds_toArray, List.set_cons_zero, List.set_cons_succ]
  refine one (i := 12) (by kernel_rfl) ?_
  refine wpOp_wanted rfl (by rfl) fun K hK => ?_
  go_simp
  with_reducible refine (HO1.out _).mono ?_
  rintro e wn ⟨rfl, hb⟩
  have hS2 : Below w1.heap.size w1 wn := hS1.trans (hb.mono hS1.size)
  clear hb
  refine hK _ _ ⟨hS2, ?_⟩
  clear hK K
  try simp only [Act.put, List.setIfInBounds_toArray, List.set_cons_zero, List.set_cons_succ]
  refine one (i := 14) (by kernel_rfl) ?_
  refine wpOp_wanted rfl (by rfl) fun K hK => ?_
  go_simp
  with_reducible refine (HO2.out _).mono ?_
  rintro e wn ⟨rfl, hb⟩
  have hS3 : Below w1.heap.size w1 wn := hS2.trans (hb.mono hS2.size)
  clear hb
  refine hK _ _ ⟨hS3, ?_⟩
  clear hK K
  try simp only [Act.put, List.setIfInBounds_toArray, List.set_cons_zero, List.set_cons_succ]
  refine takeH 15 (oi := ⟨some 20, _, _, _, _, _⟩) (v := ?_) rfl (by kernel_rfl) (by kernel_rfl) (by kernel_rfl) (fun _ _ _ h => h) (Or.inl ⟨by rfl, ?hyD15⟩) hS3 ?restD15
  case hyD15 => (intro W hW; (try dsimp only at hW); go_simp; try with_reducible rfl)
  try simp only [Act.put, List.setIfInBounds_toArray, List.set_cons_zero, List.set_cons_succ]
  refine takeH 16 (oi := ⟨some 21, _, _, _, _, _⟩) (v := ?_) rfl (by kernel_rfl) (by kernel_rfl) (by kernel_rfl) (fun _ _ _ h => h) (Or.inl ⟨by rfl, ?hyD16⟩) hS3 ?restD16
  case hyD16 => (intro W hW; (try dsimp only at hW); go_simp; try with_reducible rfl)
  try simp only [Act.put, List.setIfInBounds_toArray, List.set_cons_zero, List.set_cons_succ]
  refine takeH 17 (oi := ⟨some 4, _, _, _, _, _⟩) (v := ?_) rfl (by kernel_rfl) (by kernel_rfl) (by kernel_rfl) (fun _ _ _ h => h) (Or.inl ⟨by rfl, ?hyD17⟩) hS3 ?restD17
  case hyD17 => (intro W hW; (try dsimp only at hW); go_simp; try with_reducible rfl)
  try simp only [Act.put, List.setIfInBounds_toArray, List.set_cons_zero, List.set_cons_succ]
  refine wpAnyH_done (by kernel_rfl) ?_ _
  clear a0 a1 a2 b0 b1 b2
  go_wp2_with fail
  go_ret
  exact ⟨rfl, HB1.out.trans (hS3.mono HB1.out.size)⟩
theorem hRaw (k n : Int) (s : ByteArray) (k2 n2 : Int) (s2 : ByteArray) (w : World) : Calls Tryd.prog 70 #[.agg #[.int .i64 k, .int .i64 n, .string s], .agg #[.int .i64 k2, .int .i64 n2, .string s2]] w fun e w' => e = .returned (.bool (rawB k n s k2 n2 s2)) ∧ Below w.heap.size w w' := by
  unfold rawB
  by_cases hs : k < 0 ∨ k > 7
  · have e : decide (0 ≤ k ∧ k ≤ 7 ∧ k = k2 ∧ ownN k n = ownN k2 n2 ∧ ownS k s = ownS k2 s2) = false := by rw [decide_eq_false_iff_not]; omega
    rw [e]
    exact raw1 k n s k2 n2 s2 w (decide_eq_true hs)
  · by_cases hk : k = k2
    · have e : decide (0 ≤ k ∧ k ≤ 7 ∧ k = k2 ∧ ownN k n = ownN k2 n2 ∧ ownS k s = ownS k2 s2) = decide (ownN k n = ownN k2 n2 ∧ ownS k s = ownS k2 s2) := by
        rw [Bool.eq_iff_iff, decide_eq_true_eq, decide_eq_true_eq]
        exact ⟨fun h => h.2.2.2, fun h => ⟨by omega, by omega, hk, h⟩⟩
      rw [e]
      by_cases hN : ownN k n = ownN k2 n2
      · by_cases hS : ownS k s = ownS k2 s2
        · rw [decide_eq_true (show ownN k n = ownN k2 n2 ∧ ownS k s = ownS k2 s2 from ⟨hN, hS⟩)]
          exact raw3c k n s k2 n2 s2 w (decide_eq_false hs) hk (eq_true hN) (eq_true (congrArg ByteArray.toList hS))
        · rw [decide_eq_false (show ¬ (ownN k n = ownN k2 n2 ∧ ownS k s = ownS k2 s2) from fun h => hS h.2)]
          exact raw3b k n s k2 n2 s2 w (decide_eq_false hs) hk (eq_true hN) (eq_false (fun h => hS (toList_inj.1 h)))
      · rw [decide_eq_false (show ¬ (ownN k n = ownN k2 n2 ∧ ownS k s = ownS k2 s2) from fun h => hN h.1)]
        exact raw3a k n s k2 n2 s2 w (decide_eq_false hs) hk (eq_false hN)
    · have e : decide (0 ≤ k ∧ k ≤ 7 ∧ k = k2 ∧ ownN k n = ownN k2 n2 ∧ ownS k s = ownS k2 s2) = false := by
        rw [decide_eq_false_iff_not]; exact fun h => hk h.2.2.1
      rw [e]
      exact raw2 k n s k2 n2 s2 w (decide_eq_false hs) (by simpa using hk)
end Go.Proofs.YtpgpmldaggpciaaDoor.Val
