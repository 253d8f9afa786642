/- What is known of a world behind calls: a list of blocks. Plain lemmas over any program. -/
import Derived.Test.YtpgpmldaggpciaaDoorHK
namespace Go.Proofs.YtpgpmldaggpciaaDoor.HK
open Go.RowKit
set_option linter.unusedVariables false
/-- What is known of a world: nothing older has changed, and these blocks hold these cells. -/
structure OD (w : World) (L : List (Nat × TypeId × List Value)) (W : World) : Prop where
  bel : Below w.heap.size w W
  blk : ∀ x ∈ L, w.heap.size ≤ x.1 ∧ Blk W x.1 x.2.1 x.2.2
theorem OD.on {w W W' : World} {L : List (Nat × TypeId × List Value)} (h : OD w L W) (hb : Below W.heap.size W W') : OD w L W' :=
  ⟨h.bel.trans (hb.mono h.bel.size), fun x hx => ⟨(h.blk x hx).1, (h.blk x hx).2.of (hb.block _ (h.blk x hx).2.lt)⟩⟩
theorem OD.alloc {w W : World} {L : List (Nat × TypeId × List Value)} (h : OD w L W) (o : Obj) : OD w L (W.alloc o) :=
  ⟨h.bel.alloc h.bel.size o, fun x hx => ⟨(h.blk x hx).1, (h.blk x hx).2.alloc o⟩⟩
theorem OD.new {w W : World} {L : List (Nat × TypeId × List Value)} (h : OD w L W) (t : TypeId) (cs : List Value) : OD w ((W.heap.size, t, cs) :: L) (W.alloc (.cells cs.toArray t)) := by
  refine ⟨h.bel.alloc h.bel.size _, fun x hx => ?_⟩
  rcases List.mem_cons.1 hx with rfl | hx
  · exact ⟨h.bel.size, Blk.new W cs t⟩
  · exact ⟨(h.blk x hx).1, (h.blk x hx).2.alloc _⟩
theorem OD.set {w W : World} {L : List (Nat × TypeId × List Value)} {b : Nat} {t : TypeId} {cs : List Value} (h : OD w ((b, t, cs) :: L) W) (i : Nat) (v : Value) (hn : ∀ x ∈ L, x.1 ≠ b) : OD w ((b, t, cs.set i v) :: L) (W.setCell ⟨b, i, none⟩ v) := by
  refine ⟨h.bel.setCell (h.blk _ (List.mem_cons_self)).1 v, fun x hx => ?_⟩
  rcases List.mem_cons.1 hx with rfl | hx
  · exact ⟨(h.blk _ (List.mem_cons_self)).1, (h.blk _ (List.mem_cons_self)).2.setSame i v⟩
  · have hx' := h.blk x (List.mem_cons_of_mem _ hx)
    exact ⟨hx'.1, hx'.2.setOther (hn x hx) v⟩
theorem OD.lt {w W : World} {L : List (Nat × TypeId × List Value)} (h : OD w L W) : ∀ x ∈ L, x.1 ≠ W.heap.size := fun x hx => Nat.ne_of_lt (h.blk x hx).2.lt
theorem OD.put {w W : World} {L : List (Nat × TypeId × List Value)} (h : OD w L W) (t : TypeId) (a0 b0 c0 a b c : Value) :
    OD w ((W.heap.size, t, [a, b, c]) :: L) ((((W.alloc (.cells #[a0, b0, c0] t)).setCell ⟨W.heap.size, 0, none⟩ a).setCell ⟨W.heap.size, 1, none⟩ b).setCell ⟨W.heap.size, 2, none⟩ c) :=
  (((h.new t [a0, b0, c0]).set 0 a h.lt).set 1 b h.lt).set 2 c h.lt
theorem OD.nil (w : World) : OD w [] w := ⟨Below.refl _ _, fun x hx => absurd hx (by simp)⟩
theorem OD.start1 (w : World) (t : TypeId) (c1 : List Value) : OD w [(w.heap.size, t, c1)] (w.alloc (.cells c1.toArray t)) := (OD.nil w).new t c1
theorem OD.start2 (w : World) (t : TypeId) (c1 c2 : List Value) : OD w [(w.heap.size + 1, t, c2), (w.heap.size, t, c1)] ((w.alloc (.cells c1.toArray t)).alloc (.cells c2.toArray t)) := by
  have h := (OD.start1 w t c1).new t c2
  rw [show (w.alloc (.cells c1.toArray t)).heap.size = w.heap.size + 1 from by simp] at h
  exact h
theorem OD.start3 (w : World) (t : TypeId) (c1 c2 c3 : List Value) : OD w [(w.heap.size + 1 + 1, t, c3), (w.heap.size + 1, t, c2), (w.heap.size, t, c1)] (((w.alloc (.cells c1.toArray t)).alloc (.cells c2.toArray t)).alloc (.cells c3.toArray t)) := by
  have h := (OD.start2 w t c1 c2).new t c3
  rw [show ((w.alloc (.cells c1.toArray t)).alloc (.cells c2.toArray t)).heap.size = w.heap.size + 1 + 1 from by simp] at h
  exact h
theorem OD.swap {w W : World} {x y : Nat × TypeId × List Value} {L : List (Nat × TypeId × List Value)} (h : OD w (x :: y :: L) W) : OD w (y :: x :: L) W :=
  ⟨h.bel, fun z hz => h.blk z (by simp only [List.mem_cons] at hz ⊢; rcases hz with e | e | e; exact Or.inr (Or.inl e); exact Or.inl e; exact Or.inr (Or.inr e))⟩
theorem OD.two {w W : World} {p q : Nat} {t : TypeId} {c1 c2 : List Value} (hb : Below w.heap.size w W) (hp : w.heap.size ≤ p) (h1 : Blk W p t c1) (hq : w.heap.size ≤ q) (h2 : Blk W q t c2) : OD w [(p, t, c1), (q, t, c2)] W := by
  refine ⟨hb, fun x hx => ?_⟩
  simp only [List.mem_cons, List.not_mem_nil, or_false] at hx
  rcases hx with rfl | rfl
  · exact ⟨hp, h1⟩
  · exact ⟨hq, h2⟩
theorem OD.ne {w W : World} {L : List (Nat × TypeId × List Value)} (h : OD w L W) {b : Nat} {t : TypeId} {cs : List Value} (hx : (b, t, cs) ∈ L) : b ≠ W.heap.size := Nat.ne_of_lt (h.blk _ hx).2.lt
theorem OD.en {w W : World} {L : List (Nat × TypeId × List Value)} (h : OD w L W) {b : Nat} {t : TypeId} {cs : List Value} (hx : (b, t, cs) ∈ L) : W.heap.size ≠ b := Nat.ne_of_gt (h.blk _ hx).2.lt
theorem OD.bl {w W : World} {L : List (Nat × TypeId × List Value)} (h : OD w L W) {b : Nat} {t : TypeId} {cs : List Value} (hx : (b, t, cs) ∈ L) : b < W.heap.size := (h.blk _ hx).2.lt
theorem OD.cons {w W : World} {L : List (Nat × TypeId × List Value)} (h : OD w L W) {p : Nat} {t : TypeId} {cs : List Value} (hp : w.heap.size ≤ p) (hB : Blk W p t cs) : OD w ((p, t, cs) :: L) W := by
  refine ⟨h.bel, fun x hx => ?_⟩
  rcases List.mem_cons.1 hx with rfl | hx
  · exact ⟨hp, hB⟩
  · exact h.blk x hx
end Go.Proofs.YtpgpmldaggpciaaDoor.HK
