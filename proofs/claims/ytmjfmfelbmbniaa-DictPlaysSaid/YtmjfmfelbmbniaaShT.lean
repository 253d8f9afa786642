/- Layer 12: the reference's tree, made. -/
import Derived.Test.YtmjfmfelbmbniaaShS
namespace Go.Proofs.Ytmjfmfelbmbniaa
open Go.RowKit Go.Maps HK ShM
set_option linter.unusedVariables false
set_option linter.unusedSimpArgs false
attribute [local go_sem ↓] run_max_two run_min_two
theorem wf_T0 {D : Int} (h0 : 0 ≤ D) (h1 : D ≤ 64) : WF D T0 := by
  constructor
  · show 0 < 1; omega
  · show 1 ≤ 4096; omega
  · exact h0
  · exact h1
  · rfl
  · intro i hi
    have : i = 0 := by have : i < 1 := hi; omega
    subst this; exact h0
  · intro i hi
    have : i = 0 := by have : i < 1 := hi; omega
    subst this; exact List.nodup_nil
  · intro i hi
    have : i = 0 := by have : i < 1 := hi; omega
    subst this; show (-1 : Int) < 0; omega
  · intro i hi p hp
    have : i = 0 := by have : i < 1 := hi; omega
    subst this
    have hp : (-1 : Int) = p := hp
    omega
set_option maxHeartbeats 2000000 in
set_option maxRecDepth 20000 in
theorem rnew_calls (deep fan : Int) (v : Value) (l : List ByteArray) (w : World) (h : RdS w v l) :
    Calls Try.prog 35 #[.int .i64 deep, .int .i64 fan, v] w fun e w' => ∃ rb X, e = .returned (.pointer (some ⟨rb, 0, none⟩)) ∧ RefAt w' X rb (min (max deep 0) 64) (min (max fan 0) 64) (l.take 64) T0 ∧ (∀ b, X b → w.heap.size ≤ b) ∧ Below w.heap.size w w' := by
  have HR := Lib.hid h
  obtain ⟨a, c, rfl, hlc, hcm, hcell⟩ := h
  have hcm' : c ≤ 9223372036854775807 := hcm
  obtain ⟨n, hn⟩ : ∃ n, n = (l.take 64).length := ⟨_, rfl⟩
  have hn1 : n ≤ 64 := by rw [hn, List.length_take]; omega
  have hn2 : n ≤ l.length := by rw [hn, List.length_take]; omega
  have hmin : min (l.length : Int) 64 = (n : Int) := by rw [hn, List.length_take]; omega
  have hrd : RdS w (.slice a n c) (l.take 64) := ⟨a, c, by rw [hn], by rw [← hn]; omega, hcm, fun j s hj => hcell j s (by rw [List.getElem?_take] at hj; split at hj; exact hj; cases hj)⟩
  obtain ⟨D, hD⟩ : ∃ D, D = max 0 (min deep 64) := ⟨_, rfl⟩
  obtain ⟨F, hF⟩ : ∃ F, F = max 0 (min fan 64) := ⟨_, rfl⟩
  have HD : Hid (D = min (max deep 0) 64) := Lib.hid (by omega)
  have HF : Hid (F = min (max fan 0) 64) := Lib.hid (by omega)
  have HD0 : Hid (0 ≤ D ∧ D ≤ 64) := Lib.hid (by omega)
  have HN := Lib.hid hn
  clear hn hcell hcm
  -- the worlds
  obtain ⟨w1, e1⟩ : ∃ w1, w1 = w.alloc (.cells #[.slice none 0 0] 22) := ⟨_, rfl⟩
  obtain ⟨w2, e2⟩ : ∃ w2, w2 = w1.alloc (.cells #[.int .i64 (-1)] 3) := ⟨_, rfl⟩
  obtain ⟨w3, e3⟩ : ∃ w3, w3 = w2.alloc (.cells #[.int .i64 D, .int .i64 F, .slice none 0 0, .slice (some ⟨w.heap.size, 0, none⟩) 1 1, .slice (some ⟨w.heap.size + 1, 0, none⟩) 1 1] 48) := ⟨_, rfl⟩
  have z1 : w1.heap.size = w.heap.size + 1 := by rw [e1]; simp
  have z2 : w2.heap.size = w.heap.size + 1 + 1 := by rw [e2]; simp [z1]
  have z3 : w3.heap.size = w.heap.size + 1 + 1 + 1 := by rw [e3]; simp [z2]
  have b1 : Below w.heap.size w w1 := by rw [e1]; exact (Below.refl _ _).alloc (Nat.le_refl _) _
  have b2 : Below w.heap.size w w2 := by rw [e2]; exact b1.alloc b1.size _
  have b3 : Below w.heap.size w w3 := by rw [e3]; exact b2.alloc b2.size _
  have os3 : w3.ownsRow w.heap.size 22 1 (.slice (some ⟨w.heap.size, 0, none⟩) 1 1) 1 [.slice none 0 0] := by
    have h1 : w1.ownsRow w.heap.size 22 1 (.slice (some ⟨w.heap.size, 0, none⟩) 1 1) 1 [.slice none 0 0] := by rw [e1]; exact World.ownsRow_lit w #[.slice none 0 0] 1 (Nat.le_refl _) (by decide) rfl
    rw [e3, e2]; exact (h1.alloc _).alloc _
  have op3 : w3.ownsRow w.heap.size 3 1 (.slice (some ⟨w.heap.size + 1, 0, none⟩) 1 1) 1 [.int .i64 (-1)] := by
    have h1 : w2.ownsRow w.heap.size 3 1 (.slice (some ⟨w.heap.size + 1, 0, none⟩) 1 1) 1 [.int .i64 (-1)] := by
      rw [e2, ← z1]; exact World.ownsRow_lit w1 #[.int .i64 (-1)] 1 (by omega) (by decide) rfl
    rw [e3]; exact h1.alloc _
  have hd3 : Blk w3 (w.heap.size + 1 + 1) 48 [.int .i64 D, .int .i64 F, .slice none 0 0, .slice (some ⟨w.heap.size, 0, none⟩) 1 1, .slice (some ⟨w.heap.size + 1, 0, none⟩) 1 1] := by
    rw [← z2, e3]; exact Blk.new w2 _ 48
  have b4 : Below w.heap.size w (w3.alloc (.cells #[] 9)) := b3.alloc b3.size _
  have o4 : (w3.alloc (.cells #[] 9)).ownsRow w3.heap.size 9 1 (.slice (some ⟨w3.heap.size, 0, none⟩) 0 0) 0 [] := World.ownsRow_made w3 #[] 0 (Nat.le_refl _) (Nat.zero_le _) rfl
  obtain ⟨v5, w5, r5, o5, g5, l5⟩ := run_append_strs (w3.alloc (.cells #[] 9)) w3.heap.size (.slice (some ⟨w3.heap.size, 0, none⟩) 0 0) (.slice a n c) 0 [] (l.take 64) o4 (hrd.below b4 (Nat.le_refl _)) (by omega) (by rw [← HN.out]; omega) (by simp)
  rw [Nat.zero_add, List.nil_append] at o5
  have g5' : ∀ b, b < w3.heap.size → w5.heap[b]? = w3.heap[b]? := fun b hb => (g5.block b (by simp; omega) (fun e => by have h1 : b = w3.heap.size := Option.some.inj e; omega)).trans (Below.heap_alloc _ _ _ hb)
  have b5 : Below w.heap.size w w5 := b4.grown g5 b4.size (fun q hq => by have h1 : w3.heap.size = q := Option.some.inj hq; omega)
  have hd5 := hd3.of (g5' _ hd3.lt)
  have os5 := ownsRow_of os3 (fun g hg => g5' g (os3.lt g hg).2)
  have op5 := ownsRow_of op3 (fun g hg => g5' g (op3.lt g hg).2)
  have hd6 := hd5.setSame 2 v5
  have hC6 : Below w.heap.size w (w5.setCell ⟨w.heap.size + 1 + 1, 2, none⟩ v5) := b5.setCell (by simp; omega) _
  have x2 := hd5.cell 2 _ rfl
  have f2 := hd5.frozen 2
  have G : Hid (RefAt (w5.setCell ⟨w.heap.size + 1 + 1, 2, none⟩ v5) (fun b => w.heap.size ≤ b ∧ b < w5.heap.size) (w.heap.size + 1 + 1) D F (l.take 64) T0) := Lib.hid ⟨v5, w.heap.size, 1, w.heap.size + 1, 1, fun _ => .slice none 0 0, {
      hd := hd6
      nms := by
        have := ownsRow_of (w' := w5.setCell ⟨w.heap.size + 1 + 1, 2, none⟩ v5) o5 (fun g hg => Below.heap_setCell _ _ _ _ (fun e => by have h1 := (o5.lt g hg).1; have h2 : g = w.heap.size + 1 + 1 := e; omega))
        exact this.mono (Nat.zero_le _)
      rows := (ownsRow_of os5 (fun g hg => Below.heap_setCell _ _ _ _ (fun e => by cases hg; have h2 : w.heap.size = w.heap.size + 1 + 1 := e; omega))).mono (Nat.zero_le _)
      keys := fun i hi => by
        have : i = 0 := by have : i < 1 := hi; omega
        subst this
        exact World.ownsRow_nil _ _ _ _
      par := (ownsRow_of op5 (fun g hg => Below.heap_setCell _ _ _ _ (fun e => by cases hg; have h2 : w.heap.size + 1 = w.heap.size + 1 + 1 := e; omega))).mono (Nat.zero_le _)
      wf := wf_T0 HD0.out.1 HD0.out.2
      nm64 := by rw [← HN.out]; exact hn1
      ownR := ⟨by omega, hd5.lt⟩
      ownS := ⟨Nat.le_refl _, (os5.lt _ rfl).2⟩
      ownP := ⟨by omega, (op5.lt _ rfl).2⟩
      ownN := fun g hg => ⟨by have := (o5.lt g hg).1; omega, (o5.lt g hg).2⟩
      ownK := fun i hi g hg => by cases hg
      lt := fun b hb => by simpa using hb.2 }⟩
  have R5 := Lib.hid r5
  have HB := Lib.hid hC6
  obtain ⟨a5, c5, e5⟩ := ownsRow_form o5
  rw [← HN.out] at e5
  have E3 : Hid (((w.alloc (.cells #[.slice none 0 0] 22)).alloc (.cells #[.int .i64 (-1)] 3)).alloc (.cells #[.int .i64 (max 0 (min deep 64)), .int .i64 (max 0 (min fan 64)), .slice none 0 0, .slice (some ⟨w.heap.size, 0, none⟩) 1 1, .slice (some ⟨w.heap.size + 1, 0, none⟩) 1 1] 48) = w3) := Lib.hid (by rw [e3, e2, e1, hD, hF])
  have Z3 := Lib.hid z3
  rw [HD.out, HF.out] at G
  clear r5 hC6 e1 e2 e3 z1 z2 z3 b1 b2 b3 os3 op3 hd3 b4 o4 o5 g5 l5 g5' b5 hd5 os5 op5 hd6 hD hF
  subst e5
  go_enter Try.func35, Try.ntmps35
  go_upto_region 2 with (fail)
  rw [E3.out]
  go_wp2_with (first | (at_builtin; refine RG.wpList_append_run (v := .slice (some ⟨w3.heap.size, 0, none⟩) 0 0) (v2 := .slice a n c) rfl _ _ 22 22 rfl rfl rfl R5.out ?_; try simp only [Act.put, List.setIfInBounds_toArray, List.set_cons_zero, List.set_cons_succ]))
  go_ret
  exact ⟨_, _, rfl, G.out, fun b hb => hb.1, HB.out⟩
end Go.Proofs.Ytmjfmfelbmbniaa
