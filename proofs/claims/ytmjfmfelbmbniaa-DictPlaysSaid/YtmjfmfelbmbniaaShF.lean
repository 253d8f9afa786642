/- Layer 12: a tree as the statements make it, and the document's example. -/
import Derived.Test.YtmjfmfelbmbniaaShE
import Derived.Deep.Upon
namespace Go.Proofs.Ytmjfmfelbmbniaa
open Go.RowKit Go.Maps HK ShM
set_option linter.unusedVariables false
set_option linter.unusedSimpArgs false
/-- Strings that are read, behind a row of the call's own. -/
theorem run_append_strs (w : World) (base : Nat) (v v2 : Value) (n : Nat) (xs : List Value) (l : List ByteArray) (hown : w.ownsRow base 9 1 v n xs) (h2 : RdS w v2 l) (hn : n ≤ 1000000) (hl : l.length ≤ 1000000) (hbase : base ≤ w.heap.size) :
    ∃ v' w', (Builtin.append_ #[22, 22] 22 #[v, v2]).run Try.prog w = .ok v' w' ∧ w'.ownsRow base 9 1 v' (n + l.length) (xs ++ l.map .string) ∧ w.grownBy w' v.ownBlock ∧ (v'.ownBlock = v.ownBlock ∨ v'.ownBlock = some w.heap.size) := by
  obtain ⟨i0, hi, hz0, hz1, hz2⟩ := info_parts info9
  obtain ⟨a, c, rfl, h3, h4, h5⟩ := h2
  have hm : maxLen = 9223372036854775807 := rfl
  match a with
  | none =>
    have hl0 : l = [] := by
      cases l with
      | nil => rfl
      | cons x r => obtain ⟨b, off, e, _⟩ := h5 0 x rfl; cases e
    subst hl0
    have hsrc : Src Try.prog i0.size 22 (.slice none 0 c) 0 [] w := Src.ofNil w Try.underlying22 c
    rcases hown.2 with ⟨rfl, rfl⟩ | ⟨g, cap, cur, rfl, q1, q2, q3, q4⟩
    · have := run_append_nothing (P := Try.prog) w 22 22 22 9 i0 Try.underlying22 hi none 0 0 (Nat.le_refl _) _ hsrc
      exact ⟨_, _, this, by simpa using hown, World.grownBy.refl _ _, .inl rfl⟩
    · have := run_append_nothing (P := Try.prog) w 22 22 22 9 i0 Try.underlying22 hi (some ⟨g, 0, none⟩) n cap q3 _ hsrc
      exact ⟨_, _, this, by simpa using hown, World.grownBy.refl _ _, .inl rfl⟩
  | some ad =>
    obtain ⟨v', w', r1, r2, r3, r4, r5⟩ := run_append_own_at (P := Try.prog) w base 22 22 9 i0 (.string ByteArray.empty) 1 16 Try.underlying22 hi hz0 hz1 hz2 rfl (by decide) v n xs hown ad l.length c (l.map .string) (by simp) (fun j u hu => by
      obtain ⟨s, hs, rfl⟩ : ∃ s, l[j]? = some s ∧ u = .string s := by
        rw [List.getElem?_map] at hu
        cases e : l[j]? with
        | none => rw [e] at hu; cases hu
        | some s => rw [e] at hu; exact ⟨s, rfl, (Option.some.inj hu).symm⟩
      obtain ⟨b, off, e, hc⟩ := h5 j s hs
      cases e
      have e2 : (⟨b, off, none⟩ : Addr).add j = ⟨b, off + j, none⟩ := by unfold Addr.add; split <;> simp_all
      rw [e2]; exact hc) (strs_oneCell l) (by omega) (by omega) hbase
    exact ⟨v', w', r1, r2, r3, r5⟩
set_option maxHeartbeats 2000000 in
set_option maxRecDepth 20000 in
theorem made_calls (deep fan : Int) (mv : Value) (ms : List ByteArray) (w : World) (hm : RdS w mv ms) (hl : ∀ s ∈ ms, s.size ≤ maxLen) (hn : ms.length ≤ 1000) :
    Calls Try.prog 27 #[.agg #[.int .i64 deep, .int .i64 fan, mv]] w fun e w' => ∃ tb B, e = .returned (.pointer (some ⟨tb, 0, none⟩)) ∧ TreeAt w' B tb (min (max deep 0) 64) (min (max fan 0) 64) (ms.take 64) T0 ∧ (∀ b, B b → w.heap.size ≤ b) ∧ Below w.heap.size w w' := by
  have HM := Lib.hid hm
  obtain ⟨a, c, rfl, hx⟩ := hm
  clear hx
  have hbl := Blk.new w [.int .i64 deep, .int .i64 fan, .slice a ms.length c] 24
  have hB1 : Below w.heap.size w (w.alloc (.cells #[.int .i64 deep, .int .i64 fan, .slice a ms.length c] 24)) := (Below.refl _ _).alloc (Nat.le_refl _) _
  go_enter Try.func27, Try.ntmps27
  go_upto_region 1 with (fail)
  generalize hw1 : w.alloc (.cells #[.int .i64 deep, .int .i64 fan, .slice a ms.length c] 24) = w1 at hbl hB1 ⊢
  have hs1 : w1.heap.size = w.heap.size + 1 := by rw [← hw1]; simp
  have HS1 := Lib.hid hs1
  clear hw1 hs1
  refine wp_region_held (S := fun W => Below w1.heap.size w1 W) (by kernel_rfl) ?_
  have hS0 : Below w1.heap.size w1 ({ w1 with drawn := w1.drawn + 1 } : World) := ⟨rfl, rfl, rfl, Nat.le_refl _, fun _ _ => rfl⟩
  generalize ({ w1 with drawn := w1.drawn + 1 } : World) = w2 at hS0 ⊢
  have q0 : ∀ W, Below w1.heap.size w1 W → W.cell? ⟨w.heap.size, 0, none⟩ = some (.int .i64 deep) := fun W hW => (hW.cell hbl.lt).trans (hbl.cell 0 _ rfl)
  have q1 : ∀ W, Below w1.heap.size w1 W → W.cell? ⟨w.heap.size, 1, none⟩ = some (.int .i64 fan) := fun W hW => (hW.cell hbl.lt).trans (hbl.cell 1 _ rfl)
  have q2 : ∀ W, Below w1.heap.size w1 W → W.cell? ⟨w.heap.size, 2, none⟩ = some (.slice a ms.length c) := fun W hW => (hW.cell hbl.lt).trans (hbl.cell 2 _ rfl)
  refine wpAnyH_take (i := 0) (oi := ⟨some 3, _, _, _, _, _⟩) (v := ?_) rfl (by kernel_rfl) (by kernel_rfl) (by kernel_rfl) (fun _ _ _ h => h) (Or.inl ⟨by rfl, ?hy0⟩) hS0 ?rest0
  case hy0 => (intro W hW; (try dsimp only at hW); go_simp; try with_reducible rfl)
  simp only [Act.put, List.setIfInBounds_toArray, List.set_cons_zero, List.set_cons_succ]
  refine wpAnyH_take (i := 1) (oi := ⟨some 4, _, _, _, _, _⟩) (v := ?_) rfl (by kernel_rfl) (by kernel_rfl) (by kernel_rfl) (fun _ _ _ h => h) (Or.inl ⟨by rfl, ?hy1⟩) hS0 ?rest1
  case hy1 => (intro W hW; (try dsimp only at hW); go_simp; try with_reducible rfl)
  simp only [Act.put, List.setIfInBounds_toArray, List.set_cons_zero, List.set_cons_succ]
  refine wpAnyH_take (i := 2) (oi := ⟨some 5, _, _, _, _, _⟩) (v := ?_) rfl (by kernel_rfl) (by kernel_rfl) (by kernel_rfl) (fun _ _ _ h => h) (Or.inl ⟨by rfl, ?hy2⟩) hS0 ?rest2
  case hy2 => (intro W hW; (try dsimp only at hW); go_simp; try with_reducible rfl)
  simp only [Act.put, List.setIfInBounds_toArray, List.set_cons_zero, List.set_cons_succ]
  refine wpAnyH_take (i := 3) (oi := ⟨some 6, _, _, _, _, _⟩) (v := ?_) rfl (by kernel_rfl) (by kernel_rfl) (by kernel_rfl) (fun _ _ _ h => h) (Or.inl ⟨by rfl, ?hy3⟩) hS0 ?rest3
  case hy3 => (intro W hW; (try dsimp only at hW); go_simp; try with_reducible rfl)
  simp only [Act.put, List.setIfInBounds_toArray, List.set_cons_zero, List.set_cons_succ]
  refine wpAnyH_take (i := 5) (oi := ⟨some 8, _, _, _, _, _⟩) (v := ?_) rfl (by kernel_rfl) (by kernel_rfl) (by kernel_rfl) (fun _ _ _ h => h) (Or.inl ⟨by rfl, ?hy5⟩) hS0 ?rest5
  case hy5 => (intro W hW; (try dsimp only at hW); go_simp; try with_reducible rfl)
  simp only [Act.put, List.setIfInBounds_toArray, List.set_cons_zero, List.set_cons_succ]
  refine wpAnyH_take (i := 6) (oi := ⟨some 9, _, _, _, _, _⟩) (v := ?_) rfl (by kernel_rfl) (by kernel_rfl) (by kernel_rfl) (fun _ _ _ h => h) (Or.inl ⟨by rfl, ?hy6⟩) hS0 ?rest6
  case hy6 => (intro W hW; (try dsimp only at hW); go_simp; try with_reducible rfl)
  simp only [Act.put, List.setIfInBounds_toArray, List.set_cons_zero, List.set_cons_succ]
  refine RG.one (i := 4) (by kernel_rfl) ?_
  refine RG.wpOp_plain rfl rfl fun K hK => ?_
  go_simp
  have hS1 : Below w1.heap.size w1 (w2.alloc (.cells #[] 9)) := hS0.alloc hS0.size _
  refine hK _ _ ⟨hS1, ?_⟩
  clear hK K
  have hrd : RdS (w2.alloc (.cells #[] 9)) (.slice a ms.length c) ms := (HM.out.below hB1 (Nat.le_refl _)).below hS1 (Nat.le_refl _)
  obtain ⟨v3, w3, r1, r2, r3, r4⟩ := run_append_strs (w2.alloc (.cells #[] 9)) w2.heap.size (.slice (some ⟨w2.heap.size, 0, none⟩) 0 0) (.slice a ms.length c) 0 [] ms (World.ownsRow_made w2 #[] 0 (Nat.le_refl _) (Nat.zero_le _) rfl) hrd (by omega) (by omega) (by simp)
  rw [Nat.zero_add, List.nil_append] at r2
  have hS3 : Below w1.heap.size w1 w3 := hS1.grown r3 hS1.size (fun q hq => by cases hq; exact hS0.size)
  refine RG.one (i := 7) (by kernel_rfl) ?_
  refine RG.wpOp_plain rfl rfl fun K hK => ?_
  refine RG.wp_append_run _ _ 22 22 rfl rfl rfl r1 ?_
  refine hK _ _ ⟨hS3, ?_⟩
  simp only [Act.put, List.setIfInBounds_toArray, List.set_cons_zero, List.set_cons_succ]
  clear hK K
  have hrd3 : RdS w3 v3 ms := RdS.of_row r2
  have hN := Lib.hid (new_calls deep fan v3 ms w3 hrd3 hl)
  refine RG.one (i := 8) (by kernel_rfl) ?_
  refine RG.wpOp_plain rfl rfl fun K hK => ?_
  go_simp
  refine hN.out.mono ?_
  rintro e w4 ⟨tb, B, rfl, h1, h2, h3⟩
  have hS4 : Below w1.heap.size w1 w4 := hS3.trans (h3.mono hS3.size)
  refine hK _ _ ⟨hS4, ?_⟩
  clear hK K
  refine RG.one (i := 9) (by kernel_rfl) ?_
  refine RG.wpOp_plain rfl rfl fun K hK => ?_
  go_simp
  refine hK _ _ ⟨hS4, ?_⟩
  clear hK K
  refine wpAnyH_done (by kernel_rfl) ?_ _
  go_wp2
  go_ret
  have z1 := HS1.out
  have z2 := hS3.size
  exact ⟨tb, B, rfl, h1, fun b hb => by have := h2 b hb; omega, hB1.trans (hS4.mono (by omega))⟩
/-- A tree of the call's own, made since the world was w0. -/
def TB (w0 w : World) (tb : Nat) (deep fan : Int) (names : List ByteArray) (T : List Sh) : Prop := ∃ B, TreeAt w B tb deep fan names T ∧ (∀ b, B b → w0.heap.size ≤ b) ∧ Below w0.heap.size w0 w
section
variable {w0 w w' : World} {tb : Nat} {deep fan : Int} {names : List ByteArray} {T : List Sh}
theorem TB.bel (h : TB w0 w tb deep fan names T) : Below w0.heap.size w0 w := h.choose_spec.2.2
theorem TB.below (h : TB w0 w tb deep fan names T) (hb : Below w.heap.size w w') : TB w0 w' tb deep fan names T := by
  obtain ⟨B, h1, h2, h3⟩ := h
  exact ⟨B, h1.below hb, h2, h3.trans (hb.mono h3.size)⟩
theorem TB.alloc (h : TB w0 w tb deep fan names T) (o : Obj) : TB w0 (w.alloc o) tb deep fan names T := h.below ((Below.refl _ _).alloc (Nat.le_refl _) _)
theorem TB.drewN (h : TB w0 w tb deep fan names T) (n : Nat) : TB w0 (w.drewN n) tb deep fan names T := h.below ⟨rfl, rfl, rfl, Nat.le_refl _, fun _ _ => rfl⟩
theorem TB.wf (h : TB w0 w tb deep fan names T) : WF deep T := by obtain ⟨B, ⟨L, h1⟩, _⟩ := h; exact h1.wf
theorem TB.add (h : TB w0 w tb deep fan names T) (i : Int) (z : ByteArray) (hz : z.size ≤ maxLen) : Calls Try.prog 28 #[.pointer (some ⟨tb, 0, none⟩), .int .i64 i, .string z] w fun e w' =>
    e = .returned (.tuple #[.int .i64 (addM deep fan T i z).r, .bool (addM deep fan T i z).ok]) ∧ TB w0 w' tb deep fan names (addM deep fan T i z).T := by
  obtain ⟨B, h1, h2, h3⟩ := h
  refine (add_calls h1 i z hz).mono ?_
  rintro e w' ⟨rfl, ⟨B', g1, g2, g3⟩⟩
  exact ⟨rfl, B', g1, fun b hb => by rcases g3 b hb with h | h; exact h2 b h; exact Nat.le_trans h3.size h, h3.trans (g2.below h3.size h2)⟩
theorem TB.len (h : TB w0 w tb deep fan names T) : Calls Try.prog 29 #[.pointer (some ⟨tb, 0, none⟩)] w fun e w' => e = .returned (.int .i64 T.length) ∧ w = w' := len_calls h.choose_spec.1
theorem TB.marks (h : TB w0 w tb deep fan names T) (i : Int) : Calls Try.prog 31 #[.pointer (some ⟨tb, 0, none⟩), .int .i64 i] w fun e w' => e = .returned (.int .u64 (marksM names T i)) ∧ w = w' := marks_calls h.choose_spec.1 i
theorem TB.slot (h : TB w0 w tb deep fan names T) (i : Int) (s : ByteArray) (hs : s.size ≤ maxLen) : Calls Try.prog 34 #[.pointer (some ⟨tb, 0, none⟩), .int .i64 i, .string s] w fun e w' =>
    e = .returned (.tuple #[.int .i64 ((slotM T i s).getD 0 : Nat), .bool (slotM T i s).isSome]) ∧ w = w' := slot_calls h.choose_spec.1 i s hs
theorem TB.keys (h : TB w0 w tb deep fan names T) (i : Int) : Calls Try.prog 30 #[.pointer (some ⟨tb, 0, none⟩), .int .i64 i] w fun e w' => ∃ v, e = .returned v ∧ NewStrs w w' v (keysM T i) ∧ TB w0 w' tb deep fan names T := by
  refine (keys_calls h.choose_spec.1 i).mono ?_
  rintro e w' ⟨v, rfl, hv⟩
  exact ⟨v, rfl, hv, h.below hv.2.2⟩
end
/-- A tree of the call's own, made since the world was w0, apart from the blocks X. -/
def TBX (X : Nat → Prop) (w0 w : World) (tb : Nat) (deep fan : Int) (names : List ByteArray) (T : List Sh) : Prop := ∃ B, TreeAt w B tb deep fan names T ∧ (∀ b, B b → w0.heap.size ≤ b ∧ ¬ X b) ∧ Below w0.heap.size w0 w
section
variable {X Y : Nat → Prop} {w0 w w' : World} {tb : Nat} {deep fan : Int} {names : List ByteArray} {T : List Sh}
theorem TBX.bel (h : TBX X w0 w tb deep fan names T) : Below w0.heap.size w0 w := h.choose_spec.2.2
theorem TBX.toTB (h : TBX X w0 w tb deep fan names T) : TB w0 w tb deep fan names T := by obtain ⟨B, h1, h2, h3⟩ := h; exact ⟨B, h1, fun b hb => (h2 b hb).1, h3⟩
theorem TBX.wf (h : TBX X w0 w tb deep fan names T) : WF deep T := h.toTB.wf
theorem TB.x (h : TB w0 w tb deep fan names T) : TBX (fun _ => False) w0 w tb deep fan names T := by obtain ⟨B, h1, h2, h3⟩ := h; exact ⟨B, h1, fun b hb => ⟨h2 b hb, fun h => h⟩, h3⟩
theorem TBX.weak (h : TBX X w0 w tb deep fan names T) (hY : ∀ b, Y b → X b ∨ w.heap.size ≤ b) : TBX Y w0 w tb deep fan names T := by
  obtain ⟨B, h1, h2, h3⟩ := h
  refine ⟨B, h1, fun b hb => ⟨(h2 b hb).1, fun hy => ?_⟩, h3⟩
  rcases hY b hy with h | h
  · exact (h2 b hb).2 h
  · obtain ⟨L, h1⟩ := h1; have := h1.lt b hb; omega
theorem TBX.below (h : TBX X w0 w tb deep fan names T) (hb : Below w.heap.size w w') : TBX X w0 w' tb deep fan names T := by
  obtain ⟨B, h1, h2, h3⟩ := h
  exact ⟨B, h1.below hb, h2, h3.trans (hb.mono h3.size)⟩
theorem TBX.alloc (h : TBX X w0 w tb deep fan names T) (o : Obj) : TBX X w0 (w.alloc o) tb deep fan names T := h.below ((Below.refl _ _).alloc (Nat.le_refl _) _)
/-- A row of X is written; the tree is what it was. -/
theorem TBX.written (h : TBX X w0 w tb deep fan names T) {row : Option Nat} (hg : w.grownBy w' row) (hr : ∀ g, row = some g → w0.heap.size ≤ g ∧ X g) : TBX X w0 w' tb deep fan names T := by
  obtain ⟨B, h1, h2, h3⟩ := h
  refine ⟨B, h1.of hg.size fun b hb => hg.block b ?_ ?_, h2, h3.grown hg h3.size fun k hk => (hr k hk).1⟩
  · obtain ⟨L, h1⟩ := h1; exact h1.lt b hb
  · intro e; exact (h2 b hb).2 (hr b e.symm).2
theorem TBX.add (h : TBX X w0 w tb deep fan names T) (hX : ∀ b, X b → b < w.heap.size) (i : Int) (z : ByteArray) (hz : z.size ≤ maxLen) : Calls Try.prog 28 #[.pointer (some ⟨tb, 0, none⟩), .int .i64 i, .string z] w fun e w' =>
    e = .returned (.tuple #[.int .i64 (addM deep fan T i z).r, .bool (addM deep fan T i z).ok]) ∧ TBX X w0 w' tb deep fan names (addM deep fan T i z).T ∧ w.heap.size ≤ w'.heap.size ∧ ∀ b, X b → w'.heap[b]? = w.heap[b]? := by
  obtain ⟨B, h1, h2, h3⟩ := h
  refine (add_calls h1 i z hz).mono ?_
  rintro e w' ⟨rfl, ⟨B', g1, g2, g3⟩⟩
  refine ⟨rfl, ⟨B', g1, fun b hb => ?_, h3.trans (g2.below h3.size (fun b hb => (h2 b hb).1))⟩, g2.size, fun b hb => g2.block b (hX b hb) (fun hB => (h2 b hB).2 hb)⟩
  rcases g3 b hb with h | h
  · exact h2 b h
  · exact ⟨Nat.le_trans h3.size h, fun hx => by have := hX b hx; omega⟩
end
/-- No block of a tree holds cells of another type than these. -/
def treeTy (t : TypeId) : Bool := t == 179 || t == 171 || t == 175 || t == 9
theorem TreeAt.tight {w : World} {B : Nat → Prop} {tb : Nat} {deep fan : Int} {names : List ByteArray} {T : List Sh} (h : TreeAt w B tb deep fan names T) :
    ∃ B', TreeAt w B' tb deep fan names T ∧ (∀ b, B' b → B b) ∧ ∀ b, B' b → (∃ cs t, treeTy t = true ∧ w.heap[b]? = some (.cells cs t (0, 0))) ∨ ∃ es c, w.heap[b]? = some (.map es c) := by
  obtain ⟨L, h⟩ := h
  refine ⟨fun b => b = tb ∨ b = L.mb ∨ b = L.vb ∨ ∃ i, i < T.length ∧ (b = L.nb i ∨ b = L.sb i ∨ b = L.cb i ∨ (L.kv i).ownBlock = some b), ⟨L, { h with ownT := .inl rfl, ownM := .inr (.inl rfl), ownV := .inr (.inr (.inl rfl)), ownN := fun i hi => ⟨.inr (.inr (.inr ⟨i, hi, .inl rfl⟩)), .inr (.inr (.inr ⟨i, hi, .inr (.inl rfl)⟩)), .inr (.inr (.inr ⟨i, hi, .inr (.inr (.inl rfl))⟩)), fun g hg => .inr (.inr (.inr ⟨i, hi, .inr (.inr (.inr hg))⟩))⟩, lt := ?_ }⟩, ?_, ?_⟩
  · rintro b (rfl | rfl | rfl | ⟨i, hi, rfl | rfl | rfl | hg⟩)
    · exact h.lt _ h.ownT
    · exact h.lt _ h.ownM
    · exact h.lt _ h.ownV
    · exact h.lt _ (h.ownN i hi).1
    · exact h.lt _ (h.ownN i hi).2.1
    · exact h.lt _ (h.ownN i hi).2.2.1
    · exact h.lt _ ((h.ownN i hi).2.2.2 b hg)
  · rintro b (rfl | rfl | rfl | ⟨i, hi, rfl | rfl | rfl | hg⟩)
    · exact h.ownT
    · exact h.ownM
    · exact h.ownV
    · exact (h.ownN i hi).1
    · exact (h.ownN i hi).2.1
    · exact (h.ownN i hi).2.2.1
    · exact (h.ownN i hi).2.2.2 b hg
  · rintro b (rfl | rfl | rfl | ⟨i, hi, rfl | rfl | rfl | hg⟩)
    · exact .inl ⟨_, 179, rfl, h.hd⟩
    · obtain ⟨n, hm⟩ := h.mrk; exact .inr hm.obj
    · rcases h.row.2 with ⟨q, _⟩ | ⟨g0, c0, cur, q, _, q3, _⟩
      · cases q
      · cases q; exact .inl ⟨cur, 171, rfl, q3⟩
    · exact .inl ⟨_, 175, rfl, h.node i hi⟩
    · exact .inr (h.slots i hi).obj
    · exact .inr (h.kids i hi).obj
    · rcases (h.keys i hi).2 with ⟨q, _⟩ | ⟨g0, c0, cur, q, _, q3, _⟩
      · rw [q] at hg; cases hg
      · rw [q] at hg; cases hg; exact .inl ⟨cur, 9, rfl, q3⟩
/-- A row of another type is written; the tree is what it was. -/
theorem TB.written {w0 w w' : World} {tb : Nat} {deep fan : Int} {names : List ByteArray} {T : List Sh} (h : TB w0 w tb deep fan names T) {row : Option Nat} (hg : w.grownBy w' row) (hr : ∀ g, row = some g → w0.heap.size ≤ g ∧ ∃ cs t fr, treeTy t = false ∧ w.heap[g]? = some (.cells cs t fr)) : TB w0 w' tb deep fan names T := by
  obtain ⟨B, h1, h2, h3⟩ := h
  obtain ⟨B', g1, g2, g3⟩ := h1.tight
  refine ⟨B', g1.of hg.size fun b hb => hg.block b ?_ ?_, fun b hb => h2 b (g2 b hb), h3.grown hg h3.size fun k hk => (hr k hk).1⟩
  · obtain ⟨L, g1⟩ := g1; exact g1.lt b hb
  · intro e
    obtain ⟨_, cs, t, fr, q1, q2⟩ := hr b e.symm
    rcases g3 b hb with ⟨cs', t', q3, q4⟩ | ⟨es, c, q4⟩
    · rw [q2] at q4; simp at q4; rw [q4.2.1] at q1; rw [q1] at q3; cases q3
    · rw [q2] at q4; cases q4
abbrev bx : ByteArray := ⟨#[120]⟩
abbrev by_ : ByteArray := ⟨#[121]⟩
abbrev bz : ByteArray := ⟨#[122]⟩
def T1 : List Sh := [([], -1), ([bx], 0)]
def T2 : List Sh := [([], -1), ([bx], 0), ([bx, by_], 1)]
theorem ex1 : addM 2 1 T0 0 bx = ⟨1, true, T1⟩ := by kernel_rfl
theorem ex2 : addM 2 1 T1 0 bx = ⟨1, true, T1⟩ := by kernel_rfl
theorem ex3 : addM 2 1 T1 0 by_ = ⟨0, false, T1⟩ := by kernel_rfl
theorem ex4 : addM 2 1 T1 1 by_ = ⟨2, true, T2⟩ := by kernel_rfl
theorem ex5 : addM 2 1 T2 2 bz = ⟨0, false, T2⟩ := by kernel_rfl
theorem ex6 : marksM [bx] T2 2 = 1 := by kernel_rfl
set_option maxHeartbeats 2000000 in
set_option maxRecDepth 20000 in
theorem alive_calls (w : World) : Calls Try.prog 25 #[] w fun e w' => e = .returned (.bool true) ∧ Below w.heap.size w w' := by
  have hx : bx.size ≤ maxLen := by decide
  have hy : by_.size ≤ maxLen := by decide
  have hz : bz.size ≤ maxLen := by decide
  have hrow : (w.alloc (.cells #[.string bx] 9)).ownsRow 0 9 1 (.slice (some ⟨w.heap.size, 0, none⟩) 1 1) 1 ([bx].map .string) :=
    ⟨rfl, .inr ⟨_, 1, _, rfl, Nat.zero_le _, Blk.new w [.string bx] 9, Nat.le_refl _, by decide, rfl, rfl⟩⟩
  have HN := Lib.hid (new_calls 2 1 _ [bx] _ (RdS.of_row hrow) (by intro s hs; simp at hs; subst hs; exact hx))
  have HB0 : Hid (Below w.heap.size w (w.alloc (.cells #[.string bx] 9))) := Lib.hid ((Below.refl _ _).alloc (Nat.le_refl _) _)
  have HX := Lib.hid hx; have HY := Lib.hid hy; have HZ := Lib.hid hz
  clear hrow hx hy hz
  go_enter Try.func25, Try.ntmps25
  go_wp2_with (go_at_call 61; refine HN.out.mono ?_; rintro e w1 ⟨tb, B, rfl, h1, h2, h3⟩; have TA1 : Hid (TB w w1 tb 2 1 [bx] T0) := Lib.hid ⟨B, h1, fun b hb => Nat.le_trans HB0.out.size (h2 b hb), HB0.out.trans (h3.mono HB0.out.size)⟩; clear h1 h2 h3)
  have A2 := Lib.hid (TA1.out.add (0) bx HX.out)
  rw [ex1] at A2
  go_wp2_with fail
  (with_reducible refine A2.out.mono ?_)
  rintro e w2 ⟨rfl, hT⟩
  have TA2 := Lib.hid hT
  clear hT A2
  have A3 := Lib.hid (TA2.out.add (0) bx HX.out)
  rw [ex2] at A3
  go_wp2_with fail
  (with_reducible refine A3.out.mono ?_)
  rintro e w3 ⟨rfl, hT⟩
  have TA3 := Lib.hid hT
  clear hT A3
  have A4 := Lib.hid (TA3.out.add (0) by_ HY.out)
  rw [ex3] at A4
  go_wp2_with fail
  (with_reducible refine A4.out.mono ?_)
  rintro e w4 ⟨rfl, hT⟩
  have TA4 := Lib.hid hT
  clear hT A4
  have A5 := Lib.hid (TA4.out.add (1) by_ HY.out)
  rw [ex4] at A5
  go_wp2_with fail
  (with_reducible refine A5.out.mono ?_)
  rintro e w5 ⟨rfl, hT⟩
  have TA5 := Lib.hid hT
  clear hT A5
  have A6 := Lib.hid (TA5.out.add (2) bz HZ.out)
  rw [ex5] at A6
  go_wp2_with fail
  (with_reducible refine A6.out.mono ?_)
  rintro e w6 ⟨rfl, hT⟩
  have TA6 := Lib.hid hT
  clear hT A6
  have M := Lib.hid (TA6.out.marks 2)
  rw [ex6] at M
  have LN := Lib.hid TA6.out.len
  go_wp2_with (first | (go_at_call 31; (with_reducible refine M.out.mono ?_); rintro e w7 ⟨rfl, rfl⟩) | (go_at_call 29; (with_reducible refine (len_nil _).mono ?_); rintro e w7 ⟨rfl, rfl⟩) | (go_at_call 29; (with_reducible refine LN.out.mono ?_); rintro e w7 ⟨rfl, rfl⟩))
  go_ret
  exact ⟨rfl, TA6.out.bel⟩
end Go.Proofs.Ytmjfmfelbmbniaa
