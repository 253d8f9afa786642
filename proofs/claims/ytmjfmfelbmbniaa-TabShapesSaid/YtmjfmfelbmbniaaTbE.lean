/- Layer 14: tables over a tree, and one over none, beside one another. -/
import Derived.Test.YtmjfmfelbmbniaaTbC
namespace Go.Proofs.Ytmjfmfelbmbniaa
open Go.RowKit Go.Maps HK ShM
set_option linter.unusedVariables false
set_option linter.unusedSimpArgs false
def DD (w0 w : World) (q : Option Addr) (D F : Int) (T : List Sh) (N : Nat) (tabs : List T3) (L : List (Nat × TypeId × List Value)) (N2 : Nat) (tabs2 : List T3) : Prop :=
  ∃ P : Nat → Prop, (∀ b, P b → w0.heap.size ≤ b ∧ b < w.heap.size) ∧ TL w0 w P q D F T N tabs L ∧ TL w0 w (fun b => w0.heap.size ≤ b ∧ b < w.heap.size ∧ ¬ P b) none 0 0 T0 N2 tabs2 []
section
variable {w w' w0 : World} {q : Option Addr} {D F : Int} {T : List Sh} {N N2 i tb : Nat} {mp : Value} {s : Tab} {tabs tabs2 : List T3} {L : List (Nat × TypeId × List Value)} {c : Nat × TypeId × List Value}
theorem DD.bel (h : DD w0 w q D F T N tabs L N2 tabs2) : Below w0.heap.size w0 w := by obtain ⟨P, h1, h2, h3⟩ := h; exact h2.bel
theorem DD.blk (h : DD w0 w q D F T N tabs L N2 tabs2) (hc : c ∈ L) : Blk w c.1 c.2.1 c.2.2 := by obtain ⟨P, h1, h2, h3⟩ := h; exact h2.blk hc
theorem DD.below (h : DD w0 w q D F T N tabs L N2 tabs2) (hb : Below w.heap.size w w') : DD w0 w' q D F T N tabs L N2 tabs2 := by
  obtain ⟨P, h1, h2, h3⟩ := h
  have hs := hb.size
  refine ⟨P, fun b hb => ⟨(h1 b hb).1, by have := (h1 b hb).2; omega⟩, h2.below hb, h3.turn (Chg.ofBelow (B := fun _ => False) hb) (fun b h => h.elim) (fun b h => h.elim) (fun b hb => ?_) (fun b hb => hb.2.1)⟩
  by_cases hl : b < w.heap.size
  · exact .inl ⟨hb.1, hl, hb.2.2⟩
  · exact .inr (by omega)
theorem DD.alloc (h : DD w0 w q D F T N tabs L N2 tabs2) (cs : List Value) (t : TypeId) : DD w0 (w.alloc (.cells cs.toArray t)) q D F T N tabs ((w.heap.size, t, cs) :: L) N2 tabs2 := by
  obtain ⟨P, h1, h2, h3⟩ := h
  have hb : Below w.heap.size w (w.alloc (.cells cs.toArray t)) := (Below.refl _ _).alloc (Nat.le_refl _) _
  have hs := hb.size
  refine ⟨P, fun b hb => ⟨(h1 b hb).1, by have := (h1 b hb).2; omega⟩, h2.alloc cs t, h3.turn (Chg.ofBelow (B := fun _ => False) hb) (fun b h => h.elim) (fun b h => h.elim) (fun b hb => ?_) (fun b hb => hb.2.1)⟩
  by_cases hl : b < w.heap.size
  · exact .inl ⟨hb.1, hl, hb.2.2⟩
  · exact .inr (by omega)
theorem DD.drop (h : DD w0 w q D F T N tabs (c :: L) N2 tabs2) : DD w0 w q D F T N tabs L N2 tabs2 := by
  obtain ⟨P, h1, h2, h3⟩ := h
  exact ⟨P, h1, h2.drop, h3⟩
/-- A table over no tree. -/
theorem TL.beside (h : TL w0 w (fun _ => False) q D F T N tabs L) : Calls Try.prog 62 #[.pointer none] w fun e w' => ∃ ub, e = .returned (.pointer (some ⟨ub, 0, none⟩)) ∧ DD w0 w' q D F T N tabs L 0 [(ub, .pointer none, ⟨[], [], false, 0⟩)] := by
  have h0 : TL w0 w (fun b => w0.heap.size ≤ b ∧ b < w.heap.size) none 0 0 T0 0 [] [] := TL.start (Y := fun _ => False) (.inl ⟨rfl, rfl, rfl, fun b hb => hb⟩) h.bel (fun b hb => hb.elim) (fun b hb => hb.2)
  refine (h0.new rfl).mono ?_
  rintro e w' ⟨ub, rfl, g1, g2, g3⟩
  have hs := g2.size
  refine ⟨ub, rfl, fun b => w.heap.size ≤ b ∧ b < w'.heap.size, fun b hb => ⟨by have := h.bel.size; omega, hb.2⟩, h.turn (Chg.ofBelow (B := fun _ => False) g2) (fun b h => h.elim) (fun b h => h.elim) (fun b hb => .inr hb.1) (fun b hb => hb.2), g1.turn (Chg.refl (fun _ => False) w') (fun b h => h.elim) (fun b h => h.elim) (fun b hb => ?_) (fun b hb => hb.2.1)⟩
  by_cases hl : b < w.heap.size
  · exact .inl ⟨hb.1, hl⟩
  · exact absurd ⟨by omega, hb.2.1⟩ hb.2.2
theorem DD.do1 (h : DD w0 w q D F T N tabs L N2 tabs2) (hi : tabs[i]? = some (tb, mp, s)) (hN : N ≤ 99999) (x : OpT) (hx : x.k.s.size ≤ maxLen) : Calls Try.prog 86 #[.pointer (some ⟨tb, 0, none⟩), x.a] w fun e w' =>
    e = .returned (doAT D F T s x).a ∧ DD w0 w' q D F (doTT D F T s x) (N + 1) (tabs.set i (tb, mp, doST D F T s x)) L N2 tabs2 := by
  obtain ⟨P, h1, h2, h3⟩ := h
  refine (h2.do hi hN x hx).mono ?_
  rintro e w' ⟨rfl, g1, g2⟩
  have hs := g2.size
  refine ⟨rfl, P, fun b hb => ⟨(h1 b hb).1, by have := (h1 b hb).2; omega⟩, g1, h3.turn (C := fun b => w0.heap.size ≤ b ∧ b < w.heap.size ∧ ¬ P b) (g2.mono (fun b hl hb => ⟨hb.1, hl, hb.2⟩)) (fun b hb => hb) (fun b hb => hb.1) (fun b hb => ?_) (fun b hb => hb.2.1)⟩
  by_cases hl : b < w.heap.size
  · exact .inl ⟨hb.1, hl, hb.2.2⟩
  · exact .inr (by omega)
theorem DD.do2 (h : DD w0 w q D F T N tabs L N2 tabs2) (hi : tabs2[i]? = some (tb, mp, s)) (hN : N2 ≤ 99999) (x : OpT) (hx : x.k.s.size ≤ maxLen) (hs0 : s.i = 0) : Calls Try.prog 86 #[.pointer (some ⟨tb, 0, none⟩), x.a] w fun e w' =>
    e = .returned (doAT 0 0 T0 s x).a ∧ DD w0 w' q D F T N tabs L (N2 + 1) (tabs2.set i (tb, mp, doST 0 0 T0 s x)) := by
  obtain ⟨P, h1, h2, h3⟩ := h
  refine (h3.do hi hN x hx).mono ?_
  rintro e w' ⟨rfl, g1, g2⟩
  rw [(noTree_do hs0 0 x).2] at g1
  have hs := g2.size
  refine ⟨rfl, fun b => P b ∨ (w.heap.size ≤ b ∧ b < w'.heap.size), fun b hb => ?_, h2.turn (C := P) (g2.mono (fun b hl hb => ?_)) (fun b hb => hb) (fun b hb => (h1 b hb).1) (fun b hb => hb.imp id (fun h => h.1)) (fun b hb => ?_), g1.turn (Chg.refl (fun _ => False) w') (fun b h => h.elim) (fun b h => h.elim) (fun b hb => ?_) (fun b hb => hb.2.1)⟩
  · rcases hb with hb | hb
    · exact ⟨(h1 b hb).1, by have := (h1 b hb).2; omega⟩
    · exact ⟨by have := h2.bel.size; omega, hb.2⟩
  · by_cases hp : P b
    · exact hp
    · exact absurd ⟨hb.1, hl, hp⟩ hb.2
  · rcases hb with hb | hb
    · have := (h1 b hb).2; omega
    · exact hb.2
  · by_cases hl : b < w.heap.size
    · exact .inl ⟨hb.1, hl, fun hp => hb.2.2 (.inl hp)⟩
    · exact absurd (.inr ⟨by omega, hb.2.1⟩) hb.2.2
theorem DD.len1 (h : DD w0 w q D F T N tabs L N2 tabs2) (hi : tabs[i]? = some (tb, mp, s)) : Calls Try.prog 72 #[.pointer (some ⟨tb, 0, none⟩)] w fun e w' => e = .returned (.int .i64 (s.A.length : Nat)) ∧ w = w' := by obtain ⟨P, h1, h2, h3⟩ := h; exact h2.len hi
theorem DD.len2 (h : DD w0 w q D F T N tabs L N2 tabs2) (hi : tabs2[i]? = some (tb, mp, s)) : Calls Try.prog 72 #[.pointer (some ⟨tb, 0, none⟩)] w fun e w' => e = .returned (.int .i64 (s.A.length : Nat)) ∧ w = w' := by obtain ⟨P, h1, h2, h3⟩ := h; exact h3.len hi
theorem DD.mode2 (h : DD w0 w q D F T N tabs L N2 tabs2) (hi : tabs2[i]? = some (tb, mp, s)) : Calls Try.prog 64 #[.pointer (some ⟨tb, 0, none⟩)] w fun e w' => e = .returned (.int .i64 (if s.h then 2 else 1)) ∧ w = w' := by obtain ⟨P, h1, h2, h3⟩ := h; exact h3.mode hi
theorem DD.shape2 (h : DD w0 w q D F T N tabs L N2 tabs2) (hi : tabs2[i]? = some (tb, mp, s)) : Calls Try.prog 65 #[.pointer (some ⟨tb, 0, none⟩)] w fun e w' => e = .returned (.int .i64 (if s.h then -1 else (s.i : Int))) ∧ w = w' := by obtain ⟨P, h1, h2, h3⟩ := h; exact h3.shape hi
end
end Go.Proofs.Ytmjfmfelbmbniaa
