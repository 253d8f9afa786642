/- Layer 14: steps behind one another; boxes alone. -/
import Derived.Test.YtmjfmfelbmbniaaTbG
import Derived.Test.YtmjfmfelbmbniaaTaW
import Derived.Test.YtmjfmfelbmbniaaMeA
namespace Go.Proofs.Ytmjfmfelbmbniaa
open Go.RowKit Go.Maps HK ShM
set_option linter.unusedVariables false
set_option linter.unusedSimpArgs false
def flatT14 (l : List OpT) : List Value := l.flatMap OpT.cells
theorem flatT14_len (l : List OpT) : (flatT14 l).length = l.length * 8 := by
  induction l with
  | nil => rfl
  | cons x r ih => rw [flatT14, List.flatMap_cons, List.length_append]; rw [flatT14] at ih; rw [ih]; simp only [List.length_cons, List.length_nil]; omega
theorem flatT14_at : ∀ {l : List OpT} {i c : Nat} {x : OpT}, l[i]? = some x → c < 8 → (flatT14 l)[i * 8 + c]? = x.cells[c]?
  | [], i, c, x, h, hc => by simp at h
  | y :: r, 0, c, x, h, hc => by
    simp at h; subst h
    rw [flatT14, List.flatMap_cons, Nat.zero_mul, Nat.zero_add, List.getElem?_append_left (by simpa using hc)]
  | y :: r, i + 1, c, x, h, hc => by
    rw [flatT14, List.flatMap_cons, List.getElem?_append_right (by show 8 ≤ _; omega), show (i + 1) * 8 + c - (OpT.cells y).length = i * 8 + c by show (i + 1) * 8 + c - 8 = _; omega]
    exact flatT14_at (l := r) (by simpa using h) hc
theorem flatT14_get {l : List OpT} {j : Nat} {u : Value} (h : (flatT14 l)[j]? = some u) : ∃ x, l[j / 8]? = some x ∧ x.cells[j % 8]? = some u := by
  have hlt := (List.getElem?_eq_some_iff.1 h).1
  rw [flatT14_len] at hlt
  have h1 : j / 8 < l.length := by omega
  refine ⟨l[j / 8], List.getElem?_eq_getElem h1, ?_⟩
  have := flatT14_at (l := l) (i := j / 8) (c := j % 8) (List.getElem?_eq_getElem h1) (by omega)
  rw [show j / 8 * 8 + j % 8 = j by omega, h] at this
  exact this.symm
theorem flatT14_oneCell (l : List OpT) : ∀ u ∈ flatT14 l, u.oneCell' = true := by
  intro u hu
  obtain ⟨x, _, hx⟩ := List.mem_flatMap.1 hu
  simp at hx
  rcases hx with rfl | rfl | rfl | rfl | rfl | rfl | rfl | rfl <;> rfl
theorem RdT14.of_row {w : World} {base : Nat} {v : Value} {l : List OpT} (h : w.ownsRow base 130 8 v l.length (flatT14 l)) (hl : l.length ≤ 140737488355328) (hz : ∀ x ∈ l, x.k.s.size ≤ 140737488355328 ∧ x.v.s.size ≤ 140737488355328) : RdT14 w v l := by
  rcases h.2 with ⟨rfl, hn⟩ | ⟨g, cap, cur, rfl, _, hg, hc, hm, _⟩
  · obtain rfl : l = [] := List.eq_nil_of_length_eq_zero hn
    exact ⟨none, 0, rfl, Nat.le_refl _, Nat.zero_le _, Nat.zero_le _, fun j x hj => by simp at hj⟩
  · refine ⟨some ⟨g, 0, none⟩, cap, rfl, hc, hm, hl, fun j x hj => ⟨hz x (List.mem_of_getElem? hj), g, 0, rfl, fun i u hu => ?_⟩⟩
    have hi : i < 8 := (List.getElem?_eq_some_iff.1 hu).1
    have := h.cells (g := g) rfl (j * 8 + i) u (by rw [flatT14_at hj hi, hu])
    rw [addr0] at this
    rwa [Nat.zero_add]
theorem info130 : (Try.prog.info? 130).map (fun i => (i.zero, i.size, i.bytes)) = some (some (.agg #[.int .i64 0, .int .i64 0, .int .i64 0, .int .i64 0, .string ByteArray.empty, .int .i64 0, .int .i64 0, .string ByteArray.empty]), 8, 80) := by kernel_rfl
theorem run_append_opsT (w : World) (base b : Nat) (x : OpT) (hb : w.ownsRow base 130 8 (.slice (some ⟨b, 0, none⟩) 1 1) 1 x.cells) (hx : x.k.s.size ≤ 140737488355328 ∧ x.v.s.size ≤ 140737488355328) (lv : Value) (l : List OpT) (hl : RdT14 w lv l) (h80 : l.length * 80 ≤ 140737488351232) (hbase : base ≤ w.heap.size) :
    ∃ v' w', (Builtin.append_ #[124, 124] 124 #[.slice (some ⟨b, 0, none⟩) 1 1, lv]).run Try.prog w = .ok v' w' ∧ RdT14 w' v' (x :: l) ∧ Below base w w' := by
  obtain ⟨i0, hi, hz0, hz1, hz2⟩ := info_parts info130
  obtain ⟨a, c, rfl, h3, h4, h5, h6⟩ := hl
  have hm : maxLen = 9223372036854775807 := rfl
  match a with
  | none =>
    have hl0 : l = [] := by
      cases l with
      | nil => rfl
      | cons x r => obtain ⟨_, b, off, e, _⟩ := h6 0 x rfl; cases e
    subst hl0
    have hsrc : Src Try.prog i0.size 124 (.slice none 0 c) 0 [] w := Src.ofNil w Try.underlying124 c
    have := run_append_nothing (P := Try.prog) w 124 124 124 130 i0 Try.underlying124 hi (some ⟨b, 0, none⟩) 1 1 (Nat.le_refl _) _ hsrc
    refine ⟨_, _, this, RdT14.of_row (l := [x]) (by simpa [flatT14] using hb) (by simp) (by simpa using hx), Below.refl _ _⟩
  | some ad =>
    obtain ⟨v', w', r1, r2, r3, r4, r5⟩ := run_append_own_at (P := Try.prog) w base 124 124 130 i0 _ 8 80 Try.underlying124 hi hz0 hz1 hz2 rfl (by decide) (.slice (some ⟨b, 0, none⟩) 1 1) 1 _ hb ad l.length c (flatT14 l) (flatT14_len l) (fun j u hu => by
      obtain ⟨y, hy, hc⟩ := flatT14_get hu
      obtain ⟨_, b, off, e, hc1⟩ := h6 (j / 8) y hy
      cases e
      have e2 : (⟨b, off, none⟩ : Addr).add j = ⟨b, off + j, none⟩ := by unfold Addr.add; split <;> simp_all
      rw [e2]
      have := hc1 (j % 8) u hc
      rwa [show off + j / 8 * 8 + j % 8 = off + j by omega] at this) (flatT14_oneCell l) (by omega) (by omega) hbase
    refine ⟨v', w', r1, RdT14.of_row (base := base) (by rw [show flatT14 (x :: l) = x.cells ++ flatT14 l from rfl, List.length_cons, Nat.add_comm]; exact r2) (by simp; omega) (fun y hy => ?_), (Below.refl _ _).grown r3 hbase (fun q hq => (hb.lt q hq).1)⟩
    rcases List.mem_cons.1 hy with rfl | hy
    · exact hx
    · obtain ⟨j, hj⟩ := List.getElem?_of_mem hy
      exact (h6 j y hj).1
/-- Boxes, of memory made since a world. -/
def OB0 (w0 w : World) (L : List (Nat × TypeId × List Value)) : Prop := Below w0.heap.size w0 w ∧ ∀ c ∈ L, Blk w c.1 c.2.1 c.2.2
section
variable {w0 w w' : World} {L : List (Nat × TypeId × List Value)} {c : Nat × TypeId × List Value}
theorem OB0.bel (h : OB0 w0 w L) : Below w0.heap.size w0 w := h.1
theorem OB0.blk (h : OB0 w0 w L) (hc : c ∈ L) : Blk w c.1 c.2.1 c.2.2 := h.2 c hc
theorem OB0.below (h : OB0 w0 w L) (hb : Below w.heap.size w w') : OB0 w0 w' L := ⟨h.1.trans (hb.mono h.1.size), fun c hc => (h.2 c hc).of (hb.block _ (h.2 c hc).lt)⟩
theorem OB0.alloc (h : OB0 w0 w L) (cs : List Value) (t : TypeId) : OB0 w0 (w.alloc (.cells cs.toArray t)) ((w.heap.size, t, cs) :: L) := by
  refine ⟨h.1.alloc h.1.size _, fun c hc => ?_⟩
  rcases List.mem_cons.1 hc with rfl | hc
  · exact Blk.new w cs t
  · exact (h.2 c hc).alloc _
theorem OB0.stored {b : Nat} {t : TypeId} {cs : List Value} (h : OB0 w0 w ((b, t, cs) :: L)) (hb : w0.heap.size ≤ b) (hd : ∀ c ∈ L, c.1 ≠ b) (j : Nat) (v : Value) : OB0 w0 (w.setCell ⟨b, j, none⟩ v) ((b, t, cs.set j v) :: L) := by
  refine ⟨h.1.setCell hb v, fun c hc => ?_⟩
  rcases List.mem_cons.1 hc with rfl | hc
  · exact (h.2 _ List.mem_cons_self).setSame j v
  · exact (h.2 c (List.mem_cons_of_mem _ hc)).setOther (a := ⟨b, j, none⟩) (hd c hc) v
end
/-! What the law TabKeeps asks. -/
theorem keepT {D F : Int} {T : List Sh} {s : Tab} (h : TOK s) (hr : ∀ p ∈ s.R, p.1.own = p.1) (hor : ownR s.R) {x v : Val} (hb : x.bad = false) (y : Val) : tgetM (tsetM D F T s x v).s y = if rawV x y then v.own else tgetM s y := by
  have hl := (look_set (D := D) (F := F) (T := T) h hr hor (v := v) hb).1
  rw [tget_look, tget_look, raw_key hb]
  cases hy : y.bad with
  | true => simp
  | false =>
    have h1 := hl _ (key_canon hy)
    by_cases e : keyV x = keyV y
    · rw [if_pos e] at h1
      have e2 : (!false && decide (keyV x = keyV y)) = true := by rw [decide_eq_true e]; rfl
      rw [if_neg Bool.false_ne_true, h1, if_pos e2]
    · rw [if_neg e] at h1
      have e2 : (!false && decide (keyV x = keyV y)) = false := by rw [decide_eq_false e]; rfl
      rw [if_neg Bool.false_ne_true, if_neg Bool.false_ne_true, h1, e2, if_neg Bool.false_ne_true]
theorem border_in {s : Tab} (h : TOK s) (hn : 0 < s.A.length) : (tgetM s (intV (s.A.length : Nat))).k ≠ 0 := by
  obtain ⟨j, hj⟩ : ∃ j, s.A.length = j + 1 := ⟨s.A.length - 1, by omega⟩
  have hb : (intV ((s.A.length : Nat) : Int)).bad = false := rfl
  rw [tget_look, hb, if_neg (by decide)]
  show (lookT s.A s.R (intV ((s.A.length : Nat) : Int))).k ≠ 0
  rw [hj, show (((j + 1 : Nat)) : Int) = (j : Int) + 1 by omega, look_int (by omega)]
  refine h.a _ ?_
  rw [List.getLast?_eq_getElem?, show s.A.length - 1 = j by omega]
  exact List.getElem?_eq_getElem _
theorem border_out {s : Tab} (h : TOK s) : (tgetM s (intV ((s.A.length : Nat) + 1))).k = 0 := by
  have hb : (intV ((s.A.length : Nat) + 1 : Int)).bad = false := rfl
  rw [tget_look, hb, if_neg (by decide)]
  show (lookT s.A s.R (intV ((s.A.length : Nat) + 1))).k = 0
  rw [look_out (by rw [inA_int]; exact decide_eq_false (by omega)), ← getV_int]
  exact h.b
theorem TOK.start : TOK al0 := ⟨(fun v hv => by cases hv), (fun p hp => by cases hp), rfl, (fun v hv => by cases hv)⟩
theorem tset_isbad {D F : Int} {T : List Sh} {s : Tab} {x v : Val} (hb : x.bad = true) : tsetM D F T s x v = ⟨0, 15, s, T⟩ := by unfold tsetM; rw [hb]; rfl
theorem TL.ownT {w0 w : World} {Zp : Nat → Prop} {q : Option Addr} {D F : Int} {T : List Sh} {N i tb : Nat} {mp : Value} {s : Tab} {tabs : List T3} {L : List (Nat × TypeId × List Value)} (h : TL w0 w Zp q D F T N tabs L) (hi : tabs[i]? = some (tb, mp, s)) : OwnT s := by
  obtain ⟨B, X, h1, h2, h3, h4⟩ := h.at hi
  exact h4
end Go.Proofs.Ytmjfmfelbmbniaa
