/- Layer 12: both trees side by side; steps behind one another; the sizes of keys. -/
import Derived.Test.YtmjfmfelbmbniaaShT
namespace Go.Proofs.Ytmjfmfelbmbniaa
open Go.RowKit Go.Maps HK ShM
set_option linter.unusedVariables false
set_option linter.unusedSimpArgs false
def flatT (l : List (Int × ByteArray)) : List Value := l.flatMap fun x => [.int .i64 x.1, .string x.2]
theorem flatT_cons (x : Int × ByteArray) (l : List (Int × ByteArray)) : flatT (x :: l) = .int .i64 x.1 :: .string x.2 :: flatT l := rfl
theorem flatT_len (l : List (Int × ByteArray)) : (flatT l).length = l.length * 2 := by
  induction l with
  | nil => rfl
  | cons x r ih => rw [flatT_cons]; simp only [List.length_cons, ih]; omega
theorem flatT_get {l : List (Int × ByteArray)} {j : Nat} {u : Value} (h : (flatT l)[j]? = some u) : ∃ x, l[j / 2]? = some x ∧ (j % 2 = 0 ∧ u = .int .i64 x.1 ∨ j % 2 = 1 ∧ u = .string x.2) := by
  induction l generalizing j with
  | nil => simp [flatT] at h
  | cons x r ih =>
    rw [flatT_cons] at h
    match j with
    | 0 => exact ⟨x, rfl, .inl ⟨rfl, by simpa using h.symm⟩⟩
    | 1 => exact ⟨x, rfl, .inr ⟨rfl, by simpa using h.symm⟩⟩
    | j + 2 =>
      obtain ⟨y, h1, h2⟩ := ih (j := j) (by simpa using h)
      exact ⟨y, by rw [show (j + 2) / 2 = j / 2 + 1 by omega]; simpa using h1, by rw [show (j + 2) % 2 = j % 2 by omega]; exact h2⟩
theorem flatT_at {l : List (Int × ByteArray)} {j : Nat} {x : Int × ByteArray} (h : l[j]? = some x) : (flatT l)[j * 2]? = some (.int .i64 x.1) ∧ (flatT l)[j * 2 + 1]? = some (.string x.2) := by
  induction l generalizing j with
  | nil => simp at h
  | cons y r ih =>
    rw [flatT_cons]
    cases j with
    | zero => simp at h; subst h; exact ⟨rfl, rfl⟩
    | succ j =>
      obtain ⟨h1, h2⟩ := ih (j := j) (by simpa using h)
      rw [show (j + 1) * 2 = j * 2 + 1 + 1 by omega]
      exact ⟨by simpa using h1, by simpa using h2⟩
theorem flatT_oneCell (l : List (Int × ByteArray)) : ∀ u ∈ flatT l, u.oneCell' = true := by
  intro u hu
  obtain ⟨x, _, hx⟩ := List.mem_flatMap.1 hu
  simp at hx
  rcases hx with rfl | rfl <;> rfl
theorem RdT.of_row {w : World} {base : Nat} {v : Value} {l : List (Int × ByteArray)} (h : w.ownsRow base 31 2 v l.length (flatT l)) (hl : l.length ≤ 140737488355328) (hz : ∀ x ∈ l, x.2.size ≤ maxLen) : RdT w v l := by
  rcases h.2 with ⟨rfl, hn⟩ | ⟨g, cap, cur, rfl, _, hg, hc, hm, _⟩
  · obtain rfl : l = [] := List.eq_nil_of_length_eq_zero hn
    exact ⟨none, 0, rfl, Nat.le_refl _, Nat.zero_le _, Nat.zero_le _, fun j x hj => by simp at hj⟩
  · refine ⟨some ⟨g, 0, none⟩, cap, rfl, hc, hm, hl, fun j x hj => ⟨g, 0, rfl, ?_, ?_, hz x (List.mem_of_getElem? hj)⟩⟩
    · have := h.cells (g := g) rfl (j * 2) _ (flatT_at hj).1
      rw [addr0] at this
      rwa [Nat.zero_add]
    · have := h.cells (g := g) rfl (j * 2 + 1) _ (flatT_at hj).2
      rw [addr0] at this
      rwa [Nat.zero_add]
theorem info31 : (Try.prog.info? 31).map (fun i => (i.zero, i.size, i.bytes)) = some (some (.agg #[.int .i64 0, .string ByteArray.empty]), 2, 24) := by kernel_rfl
theorem run_append_steps (w : World) (base b : Nat) (x : Int × ByteArray) (hb : w.ownsRow base 31 2 (.slice (some ⟨b, 0, none⟩) 1 1) 1 [.int .i64 x.1, .string x.2]) (hx : x.2.size ≤ maxLen) (lv : Value) (l : List (Int × ByteArray)) (hl : RdT w lv l) (h24 : l.length * 24 ≤ 140737488351232) (hbase : base ≤ w.heap.size) :
    ∃ v' w', (Builtin.append_ #[25, 25] 25 #[.slice (some ⟨b, 0, none⟩) 1 1, lv]).run Try.prog w = .ok v' w' ∧ RdT w' v' (x :: l) ∧ Below base w w' := by
  obtain ⟨i0, hi, hz0, hz1, hz2⟩ := info_parts info31
  obtain ⟨a, c, rfl, h3, h4, h5, h6⟩ := hl
  have hm : maxLen = 9223372036854775807 := rfl
  match a with
  | none =>
    have hl0 : l = [] := by
      cases l with
      | nil => rfl
      | cons x r => obtain ⟨b, off, e, _⟩ := h6 0 x rfl; cases e
    subst hl0
    have hsrc : Src Try.prog i0.size 25 (.slice none 0 c) 0 [] w := Src.ofNil w Try.underlying25 c
    have := run_append_nothing (P := Try.prog) w 25 25 25 31 i0 Try.underlying25 hi (some ⟨b, 0, none⟩) 1 1 (Nat.le_refl _) _ hsrc
    refine ⟨_, _, this, RdT.of_row (l := [x]) hb (by simp) (by simpa using hx), Below.refl _ _⟩
  | some ad =>
    obtain ⟨v', w', r1, r2, r3, r4, r5⟩ := run_append_own_at (P := Try.prog) w base 25 25 31 i0 (.agg #[.int .i64 0, .string ByteArray.empty]) 2 24 Try.underlying25 hi hz0 hz1 hz2 rfl (by decide) (.slice (some ⟨b, 0, none⟩) 1 1) 1 _ hb ad l.length c (flatT l) (flatT_len l) (fun j u hu => by
      obtain ⟨y, hy, hc⟩ := flatT_get hu
      obtain ⟨b, off, e, hc1, hc2, _⟩ := h6 (j / 2) y hy
      cases e
      have e2 : (⟨b, off, none⟩ : Addr).add j = ⟨b, off + j, none⟩ := by unfold Addr.add; split <;> simp_all
      rw [e2]
      rcases hc with ⟨q, rfl⟩ | ⟨q, rfl⟩
      · rw [show off + j = off + j / 2 * 2 by omega]; exact hc1
      · rw [show off + j = off + j / 2 * 2 + 1 by omega]; exact hc2) (flatT_oneCell l) (by omega) (by omega) hbase
    refine ⟨v', w', r1, RdT.of_row (base := base) (by rw [flatT_cons, List.length_cons, Nat.add_comm]; exact r2) (by simp; omega) (fun y hy => ?_), (Below.refl _ _).grown r3 hbase (fun q hq => (hb.lt q hq).1)⟩
    rcases List.mem_cons.1 hy with rfl | hy
    · exact hx
    · obtain ⟨j, hj⟩ := List.getElem?_of_mem hy
      obtain ⟨_, _, _, _, _, h7⟩ := h6 j y hj
      exact h7
/-- All keys are of a size that can be. -/
def Small (T : List Sh) : Prop := ∀ s ∈ T, ∀ k ∈ s.1, k.size ≤ 140737488355328
theorem small_T0 : Small T0 := by intro s hs k hk; simp [T0] at hs; subst hs; cases hk
theorem small_add {D F : Int} {T : List Sh} (h : Small T) (i : Int) {z : ByteArray} (hz : z.size ≤ 140737488355328) : Small (addM D F T i z).T := by
  unfold addM
  split
  · exact h
  · dsimp only
    split
    · exact h
    · split
      · exact h
      · split
        · exact h
        · intro s hs k hk
          dsimp only at hs
          rcases List.mem_append.1 hs with hs | hs
          · exact h s hs k hk
          · simp at hs
            subst hs
            rcases List.mem_append.1 hk with hk | hk
            · by_cases hlt : i.toNat < T.length
              · exact h _ (getD_mem hlt) k hk
              · rw [List.getElem?_eq_none (by omega)] at hk; cases hk
            · simp at hk; subst hk; exact hz
theorem small_play {D F : Int} (l : List (Int × ByteArray)) (hl : ∀ x ∈ l, x.2.size ≤ 140737488355328) : ∀ {T : List Sh}, Small T → Small (play D F T l) := by
  induction l with
  | nil => exact fun h => h
  | cons x r ih => exact fun {T} h => ih (fun y hy => hl y (by simp [hy])) (T := (addM D F T x.1 x.2).T) (small_add h _ (hl x (by simp)))
theorem small_keys {T : List Sh} (h : Small T) (i : Int) : ∀ k ∈ keysM T i, k.size ≤ 140737488355328 := by
  intro k hk
  unfold keysM at hk
  split at hk
  · cases hk
  · exact h _ (getD_mem (by omega)) k hk
section
variable {X Y : Nat → Prop} {w0 w w' : World} {tb : Nat} {deep fan : Int} {names : List ByteArray} {T : List Sh}
theorem TBX.chg (h : TBX X w0 w tb deep fan names T) (hc : Chg X w w') (hX : ∀ b, X b → w0.heap.size ≤ b) (hY : ∀ b, Y b → X b ∨ w.heap.size ≤ b) : TBX Y w0 w' tb deep fan names T := by
  obtain ⟨B, h1, h2, h3⟩ := h
  have hlt : ∀ b, B b → b < w.heap.size := by obtain ⟨L, h1⟩ := h1; exact h1.lt
  exact ⟨B, h1.of hc.size (fun b hb => hc.block b (hlt b hb) (h2 b hb).2), fun b hb => ⟨(h2 b hb).1, fun hy => (hY b hy).elim (h2 b hb).2 (fun h => by have := hlt b hb; omega)⟩, h3.trans (hc.below h3.size hX)⟩
end
/-- Both trees of the call's own, of the same shapes. -/
def Both (w0 w : World) (tb rb : Nat) (D F : Int) (nm : List ByteArray) (T : List Sh) : Prop := ∃ X, TBX X w0 w tb D F nm T ∧ RefAt w X rb D F nm T ∧ ∀ b, X b → w0.heap.size ≤ b
section
variable {w0 w w' : World} {tb rb : Nat} {D F : Int} {nm : List ByteArray} {T : List Sh}
theorem RefAt.lt {X : Nat → Prop} (h : RefAt w X rb D F nm T) : ∀ b, X b → b < w.heap.size := by obtain ⟨_, _, _, _, _, _, h⟩ := h; exact h.lt
theorem Both.below (h : Both w0 w tb rb D F nm T) (hb : Below w.heap.size w w') : Both w0 w' tb rb D F nm T := by
  obtain ⟨X, h1, h2, h3⟩ := h
  exact ⟨X, h1.below hb, h2.below hb, h3⟩
theorem Both.bel (h : Both w0 w tb rb D F nm T) : Below w0.heap.size w0 w := by obtain ⟨X, h1, h2, h3⟩ := h; exact h1.bel
theorem Both.toTB (h : Both w0 w tb rb D F nm T) : TB w0 w tb D F nm T := by obtain ⟨X, h1, h2, h3⟩ := h; exact h1.toTB
theorem Both.ref (h : Both w0 w tb rb D F nm T) : ∃ X, RefAt w X rb D F nm T := by obtain ⟨X, h1, h2, h3⟩ := h; exact ⟨X, h2⟩
/-- .. and neither of them has a block of Z. -/
def BothX (Z : Nat → Prop) (w0 w : World) (tb rb : Nat) (D F : Int) (nm : List ByteArray) (T : List Sh) : Prop := ∃ X, TBX (fun b => X b ∨ Z b) w0 w tb D F nm T ∧ RefAt w X rb D F nm T ∧ ∀ b, X b → w0.heap.size ≤ b ∧ ¬ Z b
theorem Both.apart (h : Both w0 w tb rb D F nm T) {Z : Nat → Prop} (hZ : ∀ b, Z b → w.heap.size ≤ b) : BothX Z w0 w tb rb D F nm T := by
  obtain ⟨X, h1, h2, h3⟩ := h
  exact ⟨X, h1.weak (fun b hb => hb.imp id (hZ b)), h2, fun b hb => ⟨h3 b hb, fun hz => by have := h2.lt b hb; have := hZ b hz; omega⟩⟩
theorem BothX.both {Z : Nat → Prop} (h : BothX Z w0 w tb rb D F nm T) : Both w0 w tb rb D F nm T := by
  obtain ⟨X, h1, h2, h3⟩ := h
  exact ⟨X, h1.weak (fun b hb => .inl (.inl hb)), h2, fun b hb => (h3 b hb).1⟩
theorem BothX.below {Z : Nat → Prop} (h : BothX Z w0 w tb rb D F nm T) (hb : Below w.heap.size w w') : BothX Z w0 w' tb rb D F nm T := by
  obtain ⟨X, h1, h2, h3⟩ := h
  exact ⟨X, h1.below hb, h2.below hb, h3⟩
theorem BothX.written {Z : Nat → Prop} (h : BothX Z w0 w tb rb D F nm T) {row : Option Nat} (hg : w.grownBy w' row) (hr : ∀ g, row = some g → w0.heap.size ≤ g ∧ Z g) : BothX Z w0 w' tb rb D F nm T := by
  obtain ⟨X, h1, h2, h3⟩ := h
  exact ⟨X, h1.written hg (fun g e => ⟨(hr g e).1, .inr (hr g e).2⟩), h2.of hg.size (fun b hb => hg.block b (h2.lt b hb) (fun e => (h3 b hb).2 (hr b e.symm).2)), h3⟩
end
end Go.Proofs.Ytmjfmfelbmbniaa
