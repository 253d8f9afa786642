/- Layer 13: DictPlays: the dictionary and the reference's, side by side. -/
import Derived.Test.YtmjfmfelbmbniaaDo
import Derived.Test.YtmjfmfelbmbniaaRG3
import Derived.Test.YtmjfmfelbmbniaaDiY
namespace Go.Proofs.Ytmjfmfelbmbniaa
open Go.RowKit Go.Maps HK ShM
set_option linter.unusedVariables false
set_option linter.unusedSimpArgs false
/-- Both dictionaries, each with its pairs, beside a step's box. -/
def PBX (w0 w : World) (d rb N : Nat) (L K : Pairs) (bx : Nat) (cs : List Value) : Prop :=
  ∃ X Y, DAt w X d L N ∧ RD w Y rb K ∧ (∀ b, X b → w0.heap.size ≤ b ∧ ¬ Y b) ∧ (∀ b, Y b → w0.heap.size ≤ b) ∧ Below w0.heap.size w0 w ∧ Blk w bx 59 cs ∧ ¬ X bx ∧ ¬ Y bx ∧ w0.heap.size ≤ bx
def PB (w0 w : World) (d rb N : Nat) (L : Pairs) : Prop :=
  ∃ X Y, DAt w X d L N ∧ RD w Y rb L ∧ (∀ b, X b → w0.heap.size ≤ b ∧ ¬ Y b) ∧ (∀ b, Y b → w0.heap.size ≤ b) ∧ Below w0.heap.size w0 w
section
variable {w0 w w' : World} {d rb N bx : Nat} {L K : Pairs} {cs : List Value}
theorem PBX.below (h : PBX w0 w d rb N L K bx cs) (hb : Below w.heap.size w w') : PBX w0 w' d rb N L K bx cs := by
  obtain ⟨X, Y, h1, h2, h3, h4, h5, h6, h7, h8, h9⟩ := h
  exact ⟨X, Y, h1.below hb, h2.below hb, h3, h4, h5.trans (hb.mono h5.size), h6.of (hb.block _ h6.lt), h7, h8, h9⟩
theorem PBX.box (h : PBX w0 w d rb N L K bx cs) : Blk w bx 59 cs := by
  obtain ⟨X, Y, h1, h2, h3, h4, h5, h6, h7, h8, h9⟩ := h; exact h6
theorem PBX.toPB (h : PBX w0 w d rb N L L bx cs) : PB w0 w d rb N L := by
  obtain ⟨X, Y, h1, h2, h3, h4, h5, _⟩ := h; exact ⟨X, Y, h1, h2, h3, h4, h5⟩
theorem PB.bel (h : PB w0 w d rb N L) : Below w0.heap.size w0 w := by obtain ⟨X, Y, h1, h2, h3, h4, h5⟩ := h; exact h5
theorem PB.keysOK (h : PB w0 w d rb N L) : KeysOK L := by obtain ⟨X, Y, h1, _⟩ := h; exact h1.keysOK
theorem PB.len (h : PB w0 w d rb N L) : L.length ≤ N := by
  obtain ⟨X, Y, ⟨es, ev, tb, T, _, rfl, h2⟩, _⟩ := h
  exact Nat.le_trans (absE_len es) h2
theorem PB.boxed (h : PB w0 w d rb N L) (cs : List Value) : PBX w0 (w.alloc (.cells cs.toArray 59)) d rb N L L w.heap.size cs := by
  obtain ⟨X, Y, h1, h2, h3, h4, h5⟩ := h
  have hb : Below w.heap.size w (w.alloc (.cells cs.toArray 59)) := (Below.refl _ _).alloc (Nat.le_refl _) _
  exact ⟨X, Y, h1.below hb, h2.below hb, h3, h4, h5.trans (hb.mono h5.size), Blk.new w cs 59, fun h => absurd (h1.lt _ h) (Nat.lt_irrefl _), fun h => absurd (h2.lt _ h) (Nat.lt_irrefl _), h5.size⟩
theorem PBX.doD (h : PBX w0 w d rb N L K bx cs) (hN : N < 131072) (x : OpV) (hx : x.k.s.size ≤ maxLen) : Calls Try.prog 51 #[.pointer (some ⟨d, 0, none⟩), x.a] w fun e w' => e = .returned (doA L x).a ∧ PBX w0 w' d rb (N + 1) (doL L x) K bx cs := by
  obtain ⟨X, Y, h1, h2, h3, h4, h5, h6, h7, h8, h9⟩ := h
  with_reducible refine (ddo_calls h1 hN x hx).mono ?_
  rintro e w' ⟨rfl, X', ⟨g1, g2⟩, g3⟩
  refine ⟨rfl, X', Y, g1, h2.of g2.size (fun b hb => g2.block b (h2.lt b hb) (fun hx => (h3 b hx).2 hb)), fun b hb => ?_, h4, h5.trans (g2.below h5.size (fun b hb => (h3 b hb).1)), h6.of (g2.block _ h6.lt h7), fun hx => ?_, h8, h9⟩
  · rcases g3 b hb with h | h
    · exact h3 b h
    · exact ⟨Nat.le_trans h5.size h, fun hy => absurd (h2.lt b hy) (by omega)⟩
  · rcases g3 _ hx with h | h
    · exact h7 h
    · exact absurd h6.lt (by omega)
theorem PBX.doR (h : PBX w0 w d rb N L K bx cs) (hk : KeysOK K) (x : OpV) (hL : K.length ≤ 1048575) : Calls Try.prog 52 #[.pointer (some ⟨rb, 0, none⟩), x.a] w fun e w' => e = .returned (doA K x).a ∧ PBX w0 w' d rb N L (doL K x) bx cs := by
  obtain ⟨X, Y, h1, h2, h3, h4, h5, h6, h7, h8, h9⟩ := h
  with_reducible refine (rdo_calls h2 hk x hL).mono ?_
  rintro e w' ⟨rfl, Y', ⟨g1, g2⟩, g3⟩
  refine ⟨rfl, X, Y', h1.of g2.size (fun b hb => g2.block b (h1.lt b hb) (fun hy => (h3 b hb).2 hy)), g1, fun b hb => ⟨(h3 b hb).1, fun hy => ?_⟩, fun b hb => ?_, h5.trans (g2.below h5.size (fun b hb => h4 b hb)), h6.of (g2.block _ h6.lt h8), h7, fun hx => ?_, h9⟩
  · rcases g3 b hy with h | h
    · exact (h3 b hb).2 h
    · exact absurd (h1.lt b hb) (by omega)
  · rcases g3 b hb with h | h
    · exact h4 b h
    · exact Nat.le_trans h5.size h
  · rcases g3 _ hx with h | h
    · exact h8 h
    · exact absurd h6.lt (by omega)
theorem PBX.len (h : PBX w0 w d rb N L K bx cs) (hN : N ≤ 1048576) : Calls Try.prog 46 #[.pointer (some ⟨d, 0, none⟩)] w fun e w' => e = .returned (.int .i64 (L.length : Nat)) ∧ Below w.heap.size w w' := by
  obtain ⟨X, Y, h1, _⟩ := h; exact dlen_calls h1 hN
theorem PBX.live (h : PBX w0 w d rb N L K bx cs) : Calls Try.prog 48 #[.pointer (some ⟨d, 0, none⟩)] w fun e w' => e = .returned (.int .i64 (liveL L : Nat)) ∧ w = w' := by
  obtain ⟨X, Y, h1, _⟩ := h; exact dlive_calls h1
theorem PBX.rlive (h : PBX w0 w d rb N L K bx cs) (hL : K.length ≤ 1048576) : Calls Try.prog 53 #[.pointer (some ⟨rb, 0, none⟩)] w fun e w' => e = .returned (.int .i64 (liveL K : Nat)) ∧ Below w.heap.size w w' := by
  obtain ⟨X, Y, h1, h2, _⟩ := h; exact rlive_calls h2 hL
theorem PBX.ref (h : PBX w0 w d rb N L K bx cs) : ∃ Y rv, RIn w Y rb K rv := by
  obtain ⟨X, Y, h1, ⟨rv, h2⟩, _⟩ := h; exact ⟨Y, rv, h2⟩
theorem doL_keys {w : World} {X : Nat → Prop} {d N : Nat} {L : Pairs} (h : DAt w X d L N) : KeysOK L := h.keysOK
theorem PBX.lenL (h : PBX w0 w d rb N L K bx cs) : L.length ≤ N := by
  obtain ⟨X, Y, ⟨es, ev, tb, T, _, rfl, h2⟩, _⟩ := h
  exact Nat.le_trans (absE_len es) h2
theorem PB.start {w w1 : World} {d : Nat} {X : Nat → Prop} (hb : Below w.heap.size w w1) (h : DAt w1 X d [] 0) (hX : ∀ b, X b → w.heap.size ≤ b) : PB w (w1.alloc (.cells #[.slice none 0 0] 74)) d w1.heap.size 0 [] := by
  have hb1 : Below w1.heap.size w1 (w1.alloc (.cells #[.slice none 0 0] 74)) := (Below.refl _ _).alloc (Nat.le_refl _) _
  refine ⟨X, fun b => b = w1.heap.size, h.below hb1, ⟨.slice none 0 0, ⟨Blk.new w1 [.slice none 0 0] 74, World.ownsRow_nil _ _ _ _, rfl, (fun g hg => by cases hg), fun b e => by subst e; simp⟩⟩, fun b hx => ⟨hX b hx, fun e => by subst e; exact absurd (h.lt _ hx) (Nat.lt_irrefl _)⟩, fun b e => by subst e; exact hb.size, hb.alloc hb.size _⟩
end
set_option maxHeartbeats 8000000 in
set_option maxRecDepth 20000 in
theorem plays13_walk (lv : Value) (l : List OpV) (w : World) (hl : RdO w lv l) : Calls Try.prog 8 #[lv] w fun e w' => e = .returned (.bool true) ∧ Below w.heap.size w w' := by
  have HL := Lib.hid hl
  have HAL := Lib.hid (fun (W : World) => dalive_calls W)
  have HNW := Lib.hid (fun (W : World) => dnew_calls W)
  have HGR := Lib.hid (fun (v : Value) (l : List OpV) (W : World) (h : RdO W v l) => dgreat_calls v l W h)
  obtain ⟨la, lc, hlv, _⟩ := hl
  subst hlv
  obtain ⟨n2, hn2⟩ : ∃ n, n = l.length := ⟨_, rfl⟩
  have E2 := Lib.hid hn2
  rw [← hn2] at HL ⊢
  clear hn2
  go_enter Try.func8, Try.ntmps8
  go_upto_region 5 with (first
    | (go_at_call 40; (with_reducible refine (HAL.out _).mono ?_); rintro e w1 ⟨rfl, hb⟩; have HB1 := Lib.hid hb; clear hb)
    | (go_at_call 41; (with_reducible refine (HGR.out _ _ _ (HL.out.below HB1.out (Nat.le_refl _))).mono ?_); rintro e w3 ⟨g, rfl, hg, hb⟩; have HB3 := Lib.hid (HB1.out.trans (hb.mono HB1.out.size)); have HG := Lib.hid hg; clear hb hg; cases g))
  rotate_left
  · go_ret
    exact ⟨rfl, HB3.out⟩
  have hn600 : n2 ≤ 600 := by have := HG.out trivial; rw [E2.out]; omega
  go_wp2_with (go_at_call 42; (with_reducible refine (HNW.out _).mono ?_); rintro e w4 ⟨d, X, rfl, h1, hX, hb⟩; have HP0 : Hid (PB w (w4.alloc (.cells #[.slice none 0 0] 74)) d w4.heap.size 0 []) := Lib.hid (PB.start (HB3.out.trans (hb.mono HB3.out.size)) h1 (fun b hb => Nat.le_trans HB3.out.size (hX b hb))); clear h1 hX hb)
  clear HG HAL HNW HGR HB1 HB3
  obtain ⟨rb, hrb⟩ : ∃ b, b = w4.heap.size := ⟨_, rfl⟩
  rw [← hrb] at HP0 ⊢
  obtain ⟨W5, hW5⟩ : ∃ z, z = w4.alloc (.cells #[.slice none 0 0] 74) := ⟨_, rfl⟩
  rw [← hW5] at HP0 ⊢
  clear hrb hW5
  go_loopw [16] (fun ii wr => ∃ (j : Nat), j ≤ n2 ∧ ii = .int .i64 j ∧ Hid (∃ L, PB w wr d rb j L)) (fun ii _ => n2 - (intOf ii).toNat)
  case atStart => exact ⟨0, Nat.zero_le _, rfl, Lib.hid ⟨[], HP0.out⟩⟩
  case round =>
    obtain ⟨j, hj, rfl, hre⟩ := hrel
    obtain ⟨L, hD⟩ := hre.out
    by_cases hlt : j < n2
    · have hjl : j < l.length := by rw [← E2.out]; exact hlt
      obtain ⟨x, hx⟩ : ∃ x, l[j]? = some x := ⟨_, List.getElem?_eq_getElem hjl⟩
      have hro := HL.out.below hD.bel (Nat.le_refl _)
      obtain ⟨a', c', he, hc1, hc2, _, hcl⟩ := hro
      have hc1' : n2 ≤ lc := by cases he; rw [E2.out]; exact hc1
      have hc2' : lc ≤ 9223372036854775807 := by cases he; exact hc2
      obtain ⟨⟨hs1, hs2⟩, b, off, hab, hcs⟩ := hcl j x hx
      have hla : la = some ⟨b, off, none⟩ := by cases he; exact hab
      subst hla
      have hj0 : (0 : Int) ≤ (j : Int) := by omega
      have hj1 : (j : Int) < (n2 : Int) := by omega
      have u0 := hcs 0 _ rfl
      have u1 := hcs 1 _ rfl
      have u2 := hcs 2 _ rfl
      have u3 := hcs 3 _ rfl
      have u4 := hcs 4 _ rfl
      have u5 := hcs 5 _ rfl
      have u6 := hcs 6 _ rfl
      rw [Nat.add_zero] at u0
      have hxm : x.k.s.size ≤ maxLen := by have : maxLen = 9223372036854775807 := rfl; omega
      have HPX := Lib.hid (hD.boxed x.cells)
      have HKK := Lib.hid hD.keysOK
      have hlen := hD.len
      have HLL : Hid (L.length ≤ 1048575) := Lib.hid (by omega)
      have HC1 := Lib.hid (fun (W : World) (h : PBX w W d rb j L L wr.heap.size x.cells) => h.doD (by omega) x hxm)
      have HC2 := Lib.hid (fun (W : World) (h : PBX w W d rb (j + 1) (doL L x) L wr.heap.size x.cells) => h.doR HKK.out x HLL.out)
      obtain ⟨A, hA⟩ : ∃ A, doA L x = A := ⟨_, rfl⟩
      obtain ⟨M, hM⟩ : ∃ M, doL L x = M := ⟨_, rfl⟩
      rw [hA, hM] at HC1
      rw [hA, hM] at HC2
      have HC3 := Lib.hid (fun (W : World) (h : PBX w W d rb (j + 1) M M wr.heap.size x.cells) => h.len (by omega))
      have HC4 := Lib.hid (fun (W : World) (h : PBX w W d rb (j + 1) M M wr.heap.size x.cells) => h.live)
      have HC5 := Lib.hid (fun (W : World) (h : PBX w W d rb (j + 1) M M wr.heap.size x.cells) => h.rlive (Nat.le_trans h.lenL (by omega)))
      obtain ⟨⟨a1, a2, a3⟩, ⟨a4, a5, a6⟩, a7, a8⟩ := A
      obtain ⟨c, ⟨k1, k2, k3⟩, ⟨v1, v2, v3⟩⟩ := x
      clear hx hcs hcl he hab hc1 hc2 hs1 hs2 hjl hD hre hxm hlen hA hM
      go_upto_region 9 with (fail)
      clear u0 u1 u2 u3 u4 u5 u6
      obtain ⟨bx, hbx⟩ : ∃ z, z = wr.heap.size := ⟨_, rfl⟩
      rw [← hbx] at HPX HC1 HC2 HC3 HC4 HC5 ⊢
      have HPX : Hid (PBX w (wr.alloc (.cells #[.int .i64 c, .int .i64 k1, .int .i64 k2, .string k3, .int .i64 v1, .int .i64 v2, .string v3] 59)) d rb j L L bx [.int .i64 c, .int .i64 k1, .int .i64 k2, .string k3, .int .i64 v1, .int .i64 v2, .string v3]) := HPX
      obtain ⟨W6, hW6⟩ : ∃ z, z = wr.alloc (.cells #[.int .i64 c, .int .i64 k1, .int .i64 k2, .string k3, .int .i64 v1, .int .i64 v2, .string v3] 59) := ⟨_, rfl⟩
      rw [← hW6] at HPX ⊢
      clear hW6 hbx
      have HPD : Hid (PBX w ({ W6 with drawn := W6.drawn + 1 } : World) d rb j L L bx [.int .i64 c, .int .i64 k1, .int .i64 k2, .string k3, .int .i64 v1, .int .i64 v2, .string v3]) := Lib.hid (HPX.out.below ⟨rfl, rfl, rfl, Nat.le_refl _, fun _ _ => rfl⟩)
      refine wp_region_held (S := fun W => Blk W bx 59 [.int .i64 c, .int .i64 k1, .int .i64 k2, .string k3, .int .i64 v1, .int .i64 v2, .string v3]) (by kernel_rfl) ?_
      generalize ({ W6 with drawn := W6.drawn + 1 } : World) = w7 at *
      have hS0 : Blk w7 bx 59 [.int .i64 c, .int .i64 k1, .int .i64 k2, .string k3, .int .i64 v1, .int .i64 v2, .string v3] := HPD.out.box
      have q0 : ∀ W, Blk W bx 59 [.int .i64 c, .int .i64 k1, .int .i64 k2, .string k3, .int .i64 v1, .int .i64 v2, .string v3] → W.cell? ⟨bx, 0, none⟩ = some (.int .i64 c) := fun W hW => hW.cell 0 _ rfl
      have q1 : ∀ W, Blk W bx 59 [.int .i64 c, .int .i64 k1, .int .i64 k2, .string k3, .int .i64 v1, .int .i64 v2, .string v3] → W.cell? ⟨bx, 1, none⟩ = some (.int .i64 k1) := fun W hW => hW.cell 1 _ rfl
      have q2 : ∀ W, Blk W bx 59 [.int .i64 c, .int .i64 k1, .int .i64 k2, .string k3, .int .i64 v1, .int .i64 v2, .string v3] → W.cell? ⟨bx, 2, none⟩ = some (.int .i64 k2) := fun W hW => hW.cell 2 _ rfl
      have q3 : ∀ W, Blk W bx 59 [.int .i64 c, .int .i64 k1, .int .i64 k2, .string k3, .int .i64 v1, .int .i64 v2, .string v3] → W.cell? ⟨bx, 3, none⟩ = some (.string k3) := fun W hW => hW.cell 3 _ rfl
      have q4 : ∀ W, Blk W bx 59 [.int .i64 c, .int .i64 k1, .int .i64 k2, .string k3, .int .i64 v1, .int .i64 v2, .string v3] → W.cell? ⟨bx, 4, none⟩ = some (.int .i64 v1) := fun W hW => hW.cell 4 _ rfl
      have q5 : ∀ W, Blk W bx 59 [.int .i64 c, .int .i64 k1, .int .i64 k2, .string k3, .int .i64 v1, .int .i64 v2, .string v3] → W.cell? ⟨bx, 5, none⟩ = some (.int .i64 v2) := fun W hW => hW.cell 5 _ rfl
      have q6 : ∀ W, Blk W bx 59 [.int .i64 c, .int .i64 k1, .int .i64 k2, .string k3, .int .i64 v1, .int .i64 v2, .string v3] → W.cell? ⟨bx, 6, none⟩ = some (.string v3) := fun W hW => hW.cell 6 _ rfl
      refine RG.takeH 0 (oi := ⟨some 20, _, _, _, _, _⟩) (v := ?_) rfl (by kernel_rfl) (by kernel_rfl) (by kernel_rfl) (fun _ _ _ h => h) (Or.inl ⟨by rfl, ?hyA0⟩) hS0 ?restA0
      case hyA0 => (intro W hW; (try dsimp only at hW); go_simp; try with_reducible rfl)
      try simp only [Act.put, List.setIfInBounds_toArray, List.set_cons_zero, List.set_cons_succ]
      refine RG.takeH 1 (oi := ⟨some 21, _, _, _, _, _⟩) (v := ?_) rfl (by kernel_rfl) (by kernel_rfl) (by kernel_rfl) (fun _ _ _ h => h) (Or.inl ⟨by rfl, ?hyA1⟩) hS0 ?restA1
      case hyA1 => (intro W hW; (try dsimp only at hW); go_simp; try with_reducible rfl)
      try simp only [Act.put, List.setIfInBounds_toArray, List.set_cons_zero, List.set_cons_succ]
      refine RG.takeH 3 (oi := ⟨some 23, _, _, _, _, _⟩) (v := ?_) rfl (by kernel_rfl) (by kernel_rfl) (by kernel_rfl) (fun _ _ _ h => h) (Or.inl ⟨by rfl, ?hyA3⟩) hS0 ?restA3
      case hyA3 => (intro W hW; (try dsimp only at hW); go_simp; try with_reducible rfl)
      try simp only [Act.put, List.setIfInBounds_toArray, List.set_cons_zero, List.set_cons_succ]
      refine RG.takeH 4 (oi := ⟨some 24, _, _, _, _, _⟩) (v := ?_) rfl (by kernel_rfl) (by kernel_rfl) (by kernel_rfl) (fun _ _ _ h => h) (Or.inl ⟨by rfl, ?hyA4⟩) hS0 ?restA4
      case hyA4 => (intro W hW; (try dsimp only at hW); go_simp; try with_reducible rfl)
      try simp only [Act.put, List.setIfInBounds_toArray, List.set_cons_zero, List.set_cons_succ]
      refine RG.one (i := 2) (by kernel_rfl) ?_
      refine RG.wpOp_wanted rfl (by rfl) fun K hK => ?_
      go_simp
      with_reducible refine (HC1.out _ HPD.out).mono ?_
      rintro e w8 ⟨rfl, hb⟩
      have HPD2 := Lib.hid hb
      clear hb
      have hS1 := HPD2.out.box
      refine hK _ _ ⟨hS1, ?_⟩
      clear hK K
      try simp only [Act.put, List.setIfInBounds_toArray, List.set_cons_zero, List.set_cons_succ]
      refine RG.one (i := 5) (by kernel_rfl) ?_
      refine RG.wpOp_wanted rfl (by rfl) fun K hK => ?_
      go_simp
      with_reducible refine (HC2.out _ HPD2.out).mono ?_
      rintro e w9 ⟨rfl, hb⟩
      have HPD3 := Lib.hid hb
      clear hb
      have hS2 := HPD3.out.box
      refine hK _ _ ⟨hS2, ?_⟩
      clear hK K
      try simp only [Act.put, List.setIfInBounds_toArray, List.set_cons_zero, List.set_cons_succ]
      refine RG.takeH 6 (oi := ⟨some 26, _, _, _, _, _⟩) (v := ?_) rfl (by kernel_rfl) (by kernel_rfl) (by kernel_rfl) (fun _ _ _ h => h) (Or.inl ⟨by rfl, ?hyB6⟩) hS2 ?restB6
      case hyB6 => (intro W hW; (try dsimp only at hW); go_simp; try with_reducible rfl)
      try simp only [Act.put, List.setIfInBounds_toArray, List.set_cons_zero, List.set_cons_succ]
      refine RG.takeH 7 (oi := ⟨some 27, _, _, _, _, _⟩) (v := ?_) rfl (by kernel_rfl) (by kernel_rfl) (by kernel_rfl) (fun _ _ _ h => h) (Or.inl ⟨by rfl, ?hyB7⟩) hS2 ?restB7
      case hyB7 => (intro W hW; (try dsimp only at hW); go_simp; try with_reducible rfl)
      try simp only [Act.put, List.setIfInBounds_toArray, List.set_cons_zero, List.set_cons_succ]
      refine RG.takeH 8 (oi := ⟨some 28, _, _, _, _, _⟩) (v := ?_) rfl (by kernel_rfl) (by kernel_rfl) (by kernel_rfl) (fun _ _ _ h => h) (Or.inl ⟨by rfl, ?hyB8⟩) hS2 ?restB8
      case hyB8 => (intro W hW; (try dsimp only at hW); go_simp; try with_reducible rfl)
      try simp only [Act.put, List.setIfInBounds_toArray, List.set_cons_zero, List.set_cons_succ]
      refine RG.takeH 10 (oi := ⟨some 30, _, _, _, _, _⟩) (v := ?_) rfl (by kernel_rfl) (by kernel_rfl) (by kernel_rfl) (fun _ _ _ h => h) (Or.inl ⟨by rfl, ?hyB10⟩) hS2 ?restB10
      case hyB10 => (intro W hW; (try dsimp only at hW); go_simp; try with_reducible rfl)
      try simp only [Act.put, List.setIfInBounds_toArray, List.set_cons_zero, List.set_cons_succ]
      refine RG.takeH 11 (oi := ⟨some 31, _, _, _, _, _⟩) (v := ?_) rfl (by kernel_rfl) (by kernel_rfl) (by kernel_rfl) (fun _ _ _ h => h) (Or.inl ⟨by rfl, ?hyB11⟩) hS2 ?restB11
      case hyB11 => (intro W hW; (try dsimp only at hW); go_simp; try with_reducible rfl)
      try simp only [Act.put, List.setIfInBounds_toArray, List.set_cons_zero, List.set_cons_succ]
      refine RG.takeH 12 (oi := ⟨some 32, _, _, _, _, _⟩) (v := ?_) rfl (by kernel_rfl) (by kernel_rfl) (by kernel_rfl) (fun _ _ _ h => h) (Or.inl ⟨by rfl, ?hyB12⟩) hS2 ?restB12
      case hyB12 => (intro W hW; (try dsimp only at hW); go_simp; try with_reducible rfl)
      try simp only [Act.put, List.setIfInBounds_toArray, List.set_cons_zero, List.set_cons_succ]
      have HR8 := HPD3.out.ref
      obtain ⟨Y, rv, hri⟩ := HR8
      obtain ⟨ra, rc, hrv, hrc1, hrc2⟩ := hri.form
      subst hrv
      have HRI := Lib.hid hri
      clear hri
      refine RG.wpAnyH_mono (S' := Below w9.heap.size w9) (fun W hW => HPD3.out.box.of (hW.block _ HPD3.out.box.lt)) _ _ _ _ ?_
      have r0 : ∀ W, Below w9.heap.size w9 W → W.cell? ⟨rb, 0, none⟩ = some (.slice ra M.length rc) := fun W hW => (HRI.out.hd.of (hW.block _ HRI.out.hd.lt)).cell 0 _ rfl
      have hS9 : Below w9.heap.size w9 w9 := Below.refl _ _
      refine RG.takeH 13 (oi := ⟨some 33, _, _, _, _, _⟩) (v := ?_) rfl (by kernel_rfl) (by kernel_rfl) (by kernel_rfl) (fun _ _ _ h => h) (Or.inl ⟨by rfl, ?hyC13⟩) hS9 ?restC13
      case hyC13 => (intro W hW; (try dsimp only at hW); go_simp; try with_reducible rfl)
      try simp only [Act.put, List.setIfInBounds_toArray, List.set_cons_zero, List.set_cons_succ]
      refine RG.takeH 14 (oi := ⟨some 34, _, _, _, _, _⟩) (v := ?_) rfl (by kernel_rfl) (by kernel_rfl) (by kernel_rfl) (fun _ _ _ h => h) (Or.inl ⟨by rfl, ?hyC14⟩) hS9 ?restC14
      case hyC14 => (intro W hW; (try dsimp only at hW); go_simp; try with_reducible rfl)
      try simp only [Act.put, List.setIfInBounds_toArray, List.set_cons_zero, List.set_cons_succ]
      refine RG.one (i := 9) (by kernel_rfl) ?_
      refine RG.wpOp_wanted rfl (by rfl) fun K hK => ?_
      go_simp
      with_reducible refine (HC3.out _ (HPD3.out.below hS9)).mono ?_
      rintro e w10 ⟨rfl, hb⟩
      have hS10 : Below w9.heap.size w9 w10 := hS9.trans (hb.mono hS9.size)
      refine hK _ _ ⟨hS10, ?_⟩
      clear hK K
      try simp only [Act.put, List.setIfInBounds_toArray, List.set_cons_zero, List.set_cons_succ]
      refine RG.takeH 15 (oi := ⟨some 35, _, _, _, _, _⟩) (v := ?_) rfl (by kernel_rfl) (by kernel_rfl) (by kernel_rfl) (fun _ _ _ h => h) (Or.inl ⟨by rfl, ?hyD15⟩) hS10 ?restD15
      case hyD15 => (intro W hW; (try dsimp only at hW); go_simp; try with_reducible rfl)
      try simp only [Act.put, List.setIfInBounds_toArray, List.set_cons_zero, List.set_cons_succ]
      refine RG.takeH 16 (oi := ⟨some 36, _, _, _, _, _⟩) (v := ?_) rfl (by kernel_rfl) (by kernel_rfl) (by kernel_rfl) (fun _ _ _ h => h) (Or.inl ⟨by rfl, ?hyD16⟩) hS10 ?restD16
      case hyD16 => (intro W hW; (try dsimp only at hW); go_simp; try with_reducible rfl)
      try simp only [Act.put, List.setIfInBounds_toArray, List.set_cons_zero, List.set_cons_succ]
      refine RG.takeH 17 (oi := ⟨some 37, _, _, _, _, _⟩) (v := ?_) rfl (by kernel_rfl) (by kernel_rfl) (by kernel_rfl) (fun _ _ _ h => h) (Or.inl ⟨by rfl, ?hyD17⟩) hS10 ?restD17
      case hyD17 => (intro W hW; (try dsimp only at hW); go_simp; try with_reducible rfl)
      try simp only [Act.put, List.setIfInBounds_toArray, List.set_cons_zero, List.set_cons_succ]
      refine RG.takeH 18 (oi := ⟨some 38, _, _, _, _, _⟩) (v := ?_) rfl (by kernel_rfl) (by kernel_rfl) (by kernel_rfl) (fun _ _ _ h => h) (Or.inl ⟨by rfl, ?hyD18⟩) hS10 ?restD18
      case hyD18 => (intro W hW; (try dsimp only at hW); go_simp; try with_reducible rfl)
      try simp only [Act.put, List.setIfInBounds_toArray, List.set_cons_zero, List.set_cons_succ]
      refine RG.takeH 20 (oi := ⟨some 40, _, _, _, _, _⟩) (v := ?_) rfl (by kernel_rfl) (by kernel_rfl) (by kernel_rfl) (fun _ _ _ h => h) (Or.inl ⟨by rfl, ?hyD20⟩) hS10 ?restD20
      case hyD20 => (intro W hW; (try dsimp only at hW); go_simp; try with_reducible rfl)
      try simp only [Act.put, List.setIfInBounds_toArray, List.set_cons_zero, List.set_cons_succ]
      refine RG.one (i := 19) (by kernel_rfl) ?_
      refine RG.wpOp_wanted rfl (by rfl) fun K hK => ?_
      go_simp
      with_reducible refine (HC4.out _ (HPD3.out.below hS10)).mono ?_
      rintro e w11 ⟨rfl, rfl⟩
      refine hK _ _ ⟨hS10, ?_⟩
      clear hK K
      try simp only [Act.put, List.setIfInBounds_toArray, List.set_cons_zero, List.set_cons_succ]
      refine RG.one (i := 21) (by kernel_rfl) ?_
      refine RG.wpOp_wanted rfl (by rfl) fun K hK => ?_
      go_simp
      with_reducible refine (HC5.out _ (HPD3.out.below hS10)).mono ?_
      rintro e w12 ⟨rfl, hb⟩
      have hS12 : Below w9.heap.size w9 w12 := hS10.trans (hb.mono hS10.size)
      refine hK _ _ ⟨hS12, ?_⟩
      clear hK K
      try simp only [Act.put, List.setIfInBounds_toArray, List.set_cons_zero, List.set_cons_succ]
      refine RG.takeH 22 (oi := ⟨some 42, _, _, _, _, _⟩) (v := ?_) rfl (by kernel_rfl) (by kernel_rfl) (by kernel_rfl) (fun _ _ _ h => h) (Or.inl ⟨by rfl, ?hyE22⟩) hS12 ?restE22
      case hyE22 => (intro W hW; (try dsimp only at hW); go_simp; try with_reducible rfl)
      try simp only [Act.put, List.setIfInBounds_toArray, List.set_cons_zero, List.set_cons_succ]
      refine RG.takeH 23 (oi := ⟨some 43, _, _, _, _, _⟩) (v := ?_) rfl (by kernel_rfl) (by kernel_rfl) (by kernel_rfl) (fun _ _ _ h => h) (Or.inl ⟨by rfl, ?hyE23⟩) hS12 ?restE23
      case hyE23 => (intro W hW; (try dsimp only at hW); go_simp; try with_reducible rfl)
      try simp only [Act.put, List.setIfInBounds_toArray, List.set_cons_zero, List.set_cons_succ]
      refine wpAnyH_done (by kernel_rfl) ?_ _
      go_wp2_with fail
      go_roundw
      case rel => exact ⟨j + 1, by omega, by go_num, Lib.hid ⟨M, (HPD3.out.below hS12).toPB⟩⟩
      case measure => simp [intOf]; omega
    · obtain rfl : j = n2 := by omega
      have HBL := Lib.hid hD.bel
      go_wp2_with fail
      go_ret
      exact ⟨rfl, HBL.out⟩
end Go.Proofs.Ytmjfmfelbmbniaa
