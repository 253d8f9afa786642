/- Blocks of memory: what one block holds, what a call may have changed, a map with string keys as a function. Plain lemmas over any program. -/
import Derived.WalkKit
import Derived.WalkSpells
import Derived.Lib.Hide
import Derived.Maps.OwnOps
import Derived.Maps.OwnSet
import Derived.Maps.AppendAt
import Derived.Deep.AppendLies
import Derived.StringKeys
import Derived.Deep.QuietTactic
import Derived.BigQuiet
namespace Go.Proofs.Ytmjfmfelbmbniaa.HK
open Go.RowKit Go.Maps Go.WideMaps
set_option linter.unusedVariables false
set_option linter.unusedSectionVars false

/-- Block b holds just these cells, of this type, none of them marked. -/
def Blk (w : World) (b : Nat) (t : TypeId) (cs : List Value) : Prop := w.heap[b]? = some (.cells cs.toArray t (0, 0))

section
variable {w w' : World} {b : Nat} {t : TypeId} {cs : List Value}
theorem Blk.lt (h : Blk w b t cs) : b < w.heap.size := (Array.getElem?_eq_some_iff.1 h).1
theorem Blk.of (h : Blk w b t cs) (e : w'.heap[b]? = w.heap[b]?) : Blk w' b t cs := e.trans h
theorem Blk.cell (h : Blk w b t cs) (i : Nat) (v : Value) (hi : cs[i]? = some v) : w.cell? ⟨b, i, none⟩ = some v := by
  simp [World.cell?, show w.heap[b]? = _ from h, hi]
theorem Blk.frozen (h : Blk w b t cs) (i : Nat) : w.frozen? ⟨b, i, none⟩ = false := by
  simp [World.frozen?, show w.heap[b]? = _ from h]
theorem Blk.ne {c : Nat} {u : TypeId} {ds : List Value} (h : Blk w b t cs) (k : Blk w c u ds) (hne : t ≠ u) : b ≠ c := by
  rintro rfl
  have := (show w.heap[b]? = _ from h).symm.trans k
  simp at this
  exact hne this.2
theorem Blk.inj {u : TypeId} {ds : List Value} (h : Blk w b t cs) (k : Blk w b u ds) : t = u ∧ cs = ds := by
  have := (show w.heap[b]? = _ from h).symm.trans k
  simp at this
  exact ⟨this.2, this.1⟩
theorem Blk.setSame (h : Blk w b t cs) (i : Nat) (v : Value) : Blk (w.setCell ⟨b, i, none⟩ v) b t (cs.set i v) := by
  unfold Blk World.setCell
  simp only [Array.getElem?_modify, if_true, show w.heap[b]? = _ from h, Option.map_some]
  simp
theorem Blk.setOther (h : Blk w b t cs) {a : Addr} (hne : b ≠ a.block) (v : Value) : Blk (w.setCell a v) b t cs :=
  h.of (Below.heap_setCell _ _ _ _ hne)
theorem Blk.alloc (h : Blk w b t cs) (o : Obj) : Blk (w.alloc o) b t cs := h.of (Below.heap_alloc _ _ _ h.lt)
theorem Blk.new (w : World) (cs : List Value) (t : TypeId) : Blk (w.alloc (.cells cs.toArray t)) w.heap.size t cs := by
  unfold Blk World.alloc; simp
theorem Blk.map_ne {c : Nat} {es : Array MapEntry} {n : Nat} (h : Blk w b t cs) (k : w.heap[c]? = some (.map es n)) : b ≠ c := by
  rintro rfl
  have := (show w.heap[b]? = _ from h).symm.trans k
  simp at this
end

/-- Between the two worlds nothing has changed but blocks of B, and new ones. -/
structure Chg (B : Nat → Prop) (w w' : World) : Prop where
  os : w'.os = w.os
  tape : w'.tape = w.tape
  output : w'.output = w.output
  size : w.heap.size ≤ w'.heap.size
  block : ∀ b, b < w.heap.size → ¬ B b → w'.heap[b]? = w.heap[b]?
section
variable {B C : Nat → Prop} {w w1 w2 : World}
theorem Chg.refl (B : Nat → Prop) (w : World) : Chg B w w := ⟨rfl, rfl, rfl, Nat.le_refl _, fun _ _ _ => rfl⟩
theorem Chg.mono (h : Chg B w w1) (hs : ∀ b, b < w.heap.size → B b → C b) : Chg C w w1 := ⟨h.os, h.tape, h.output, h.size, fun b hb hn => h.block b hb (fun hB => hn (hs b hb hB))⟩
theorem Chg.trans (h : Chg B w w1) (k : Chg C w1 w2) (hs : ∀ b, b < w.heap.size → C b → B b) : Chg B w w2 :=
  ⟨k.os.trans h.os, k.tape.trans h.tape, k.output.trans h.output, Nat.le_trans h.size k.size, fun b hb hn => (k.block b (Nat.lt_of_lt_of_le hb h.size) (fun hC => hn (hs b hb hC))).trans (h.block b hb hn)⟩
theorem Chg.grown {row : Option Nat} (h : Chg B w w1) (hg : w1.grownBy w2 row) (hr : ∀ k, row = some k → k < w.heap.size → B k) : Chg B w w2 :=
  h.trans (C := fun b => row = some b) ⟨hg.os, hg.tape, hg.output, hg.size, fun b hb hn => hg.block b hb (fun e => hn e.symm)⟩ (fun b hb e => hr b e hb)
theorem Chg.alloc (h : Chg B w w1) (o : Obj) : Chg B w (w1.alloc o) := h.grown (World.grownBy_alloc _ _ none) (fun _ e => by cases e)
theorem Chg.setCell (h : Chg B w w1) {a : Addr} (ha : a.block < w.heap.size → B a.block) (v : Value) : Chg B w (w1.setCell a v) :=
  h.trans (C := fun b => b = a.block) ⟨rfl, rfl, rfl, by simp, fun b hb hn => Below.heap_setCell _ _ _ _ hn⟩ (fun b hb e => by subst e; exact ha hb)
theorem Chg.drewN (h : Chg B w w1) (n : Nat) : Chg B w (w1.drewN n) := ⟨h.os, h.tape, h.output, h.size, h.block⟩
theorem Chg.drew (h : Chg B w w1) : Chg B w w1.drew := ⟨h.os, h.tape, h.output, h.size, h.block⟩
theorem Chg.ofBelow (h : Below w.heap.size w w1) : Chg B w w1 := ⟨h.os, h.tape, h.output, h.size, fun b hb _ => h.block b hb⟩
theorem Chg.below (h : Chg B w w1) {N : Nat} (hN : N ≤ w.heap.size) (hB : ∀ b, B b → N ≤ b) : Below N w w1 :=
  ⟨h.os, h.tape, h.output, h.size, fun k hk => h.block k (Nat.lt_of_lt_of_le hk hN) (fun hb => by have := hB k hb; omega)⟩
end

/-- A string's literal, as a map's key. -/
abbrev key (s : ByteArray) : Lit := .string s.data.toList
theorem key_inj {s t : ByteArray} (h : key s = key t) : s = t := by
  have h1 : s.data.toList = t.data.toList := by simpa [key] using h
  have h2 : s.data = t.data := by rw [← Array.toArray_toList (xs := s.data), h1]
  cases s; cases t; simp_all

/-- Block b is a map from strings to numbers: as a function; n: how many keys there are. -/
def MI (P : Program) (k e : TypeId) (q : IntKind) (w : World) (b n : Nat) (f : ByteArray → Option Int) : Prop :=
  ∃ D : DataW Unit, w.ownsMap P k (plainElem P e) b n D ∧ Maps.size D = n ∧ ∀ s, s.size ≤ maxLen → Maps.has D (key s) = (f s).isSome ∧ D.atKey (key s) (.lit (.int q 0)) = .lit (.int q ((f s).getD 0))
section
variable {P : Program} {k e t : TypeId} {q : IntKind} {w w' : World} {b n : Nat} {f g : ByteArray → Option Int}
theorem MI.lt (h : MI P k e q w b n f) : b < w.heap.size := by obtain ⟨D, h, _⟩ := h; exact h.lt
theorem MI.obj (h : MI P k e q w b n f) : ∃ es c, w.heap[b]? = some (.map es c) := by obtain ⟨D, ⟨es, c, h, _⟩, _⟩ := h; exact ⟨es, c, h⟩
theorem MI.of (h : MI P k e q w b n f) (he : w'.heap[b]? = w.heap[b]?) : MI P k e q w' b n f := by
  obtain ⟨D, ⟨es, c, h1, h2⟩, h3⟩ := h
  exact ⟨D, ⟨es, c, he.trans h1, h2⟩, h3⟩
theorem MI.congr (h : MI P k e q w b n f) (hf : ∀ s, s.size ≤ maxLen → f s = g s) : MI P k e q w b n g := by
  obtain ⟨D, h1, h2, h3⟩ := h
  exact ⟨D, h1, h2, fun s hs => by rw [← hf s hs]; exact h3 s hs⟩
theorem MI.copied {b' : Nat} (h : MI P k e q w b n f) (he : w'.heap[b']? = w.heap[b]?) : MI P k e q w' b' n f := by
  obtain ⟨D, ⟨es, c, h1, h2⟩, h3⟩ := h
  exact ⟨D, ⟨es, c, he.trans h1, h2⟩, h3⟩
theorem MI.blk_ne {t : TypeId} {c : Nat} {cs : List Value} (h : MI P k e q w b n f) (hb : Blk w c t cs) : c ≠ b := by
  obtain ⟨es, n, h⟩ := h.obj
  exact hb.map_ne h
theorem MI.made (w : World) : MI P k e q (w.alloc (.map #[] 0)) w.heap.size 0 (fun _ => none) :=
  ⟨.map [], World.ownsMap_made _ _ _ _, rfl, fun s _ => ⟨rfl, by simp [DataW.atKey]⟩⟩
theorem MI.look (h : MI P k e q w b n f) (K : Keyed P k) (hk : P.underlying k = some .string) (ht : P.underlying t = some (.map k e)) (he : P.underlying e = some (.int q)) (hz : (zeroValue e).run P w = .ok (.int q 0) w)
    (s : ByteArray) (hs : s.size ≤ maxLen) : (Instr.lookup t (.map (some b)) (.string s) false).run P w = .ok (.int q ((f s).getD 0)) w := by
  obtain ⟨D, h1, h2, h3⟩ := h
  obtain ⟨c, hrun, hat, _⟩ := h1.lookup_int K ht he hz (keyOf_string_mk hk hs)
  rw [(h3 s hs).2] at hat
  simp only [DataW.lit.injEq, Lit.int.injEq, true_and] at hat
  rw [hrun, hat]
theorem MI.look_ok (h : MI P k e q w b n f) (K : Keyed P k) (hk : P.underlying k = some .string) (ht : P.underlying t = some (.map k e)) (he : P.underlying e = some (.int q)) (hz : (zeroValue e).run P w = .ok (.int q 0) w)
    (s : ByteArray) (hs : s.size ≤ maxLen) : (Instr.lookup t (.map (some b)) (.string s) true).run P w = .ok (.tuple #[.int q ((f s).getD 0), .bool (f s).isSome]) w := by
  obtain ⟨D, h1, h2, h3⟩ := h
  obtain ⟨v, ps, hrun, hv⟩ := h1.look_ok K ht hz (plainElem_int he (by cases q <;> decide)) (keyOf_string_mk hk hs)
  obtain ⟨c, rfl, hc, _⟩ := plainElem_int_inv he hv
  have hc1 := congrArg Prod.fst hc
  rw [(h3 s hs).2] at hc1
  simp only [DataW.lit.injEq, Lit.int.injEq, true_and] at hc1
  rw [hrun, ← hc1, (h3 s hs).1]
theorem MI.len (h : MI P k e q w b n f) (ht : P.underlying t = some (.map k e)) (ty : TypeId) : (Builtin.len_ #[t] ty #[.map (some b)]).run P w = .ok (.int .i64 n) w := by
  obtain ⟨D, h1, h2, h3⟩ := h
  rw [h1.len ht ty, h2]
theorem MI.store (h : MI P k e q w b n f) (K : Keyed P k) (hk : P.underlying k = some .string) (ht : P.underlying t = some (.map k e)) (he : P.underlying e = some (.int q)) (hn : n < maxLen)
    (s : ByteArray) (hs : s.size ≤ maxLen) (x : Int) (hx : (Lit.int q x).wf = true) :
    ∃ w', (Instr.mapUpdate t (.map (some b)) (.string s) (.int q x)).run P w = .ok () w' ∧ MI P k e q w' b (if (f s).isSome then n else n + 1) (fun z => if z = s then some x else f z) ∧ w.grownBy w' (some b) := by
  obtain ⟨D, h1, h2, h3⟩ := h
  have htidy := h1.tidy K
  obtain ⟨w', hrun, h4, h5⟩ := h1.update K ht hn (keyOf_string_mk hk hs) (plainElem_int he hx)
  refine ⟨w', hrun, ⟨D.put (key s) (.lit (.int q x)), ?_, ?_, ?_⟩, h5⟩
  · obtain ⟨es, c, hb, F, hsz, hD⟩ := h4
    refine ⟨es, c, hb, F, ?_, hD⟩
    have e1 : Maps.size (D.put (key s) (.lit (.int q x))) = es.size := by rw [hD, Maps.size_eq, length_read]
    rw [Maps.size_put htidy, h2, (h3 s hs).1] at e1
    rw [← e1]
    exact Nat.le_refl _
  · rw [Maps.size_put htidy, h2, (h3 s hs).1]
  · intro z hz
    by_cases e1 : z = s
    · subst e1
      rw [Maps.has_put_same htidy.isMap (by trivial), Maps.atKey_put_same htidy.isMap (by trivial)]
      simp
    · have e2 : key z ≠ key s := fun h => e1 (key_inj h)
      rw [Maps.has_put_other e2, Maps.atKey_put_other e2]
      simp [e1, (h3 z hz).1, (h3 z hz).2]
end
theorem run_max_two (P : Program) (ats : Array TypeId) (ty : TypeId) (k k' : IntKind) (x y : Int) (w : World) : (Builtin.max_ ats ty #[.int k x, .int k' y]).run P w = .ok (.int k (max x y)) w := by
  have e : (if x < y then y else x) = max x y := by split <;> omega
  simp [Builtin.max_, Builtin.max2, e, gt_iff_lt]
theorem run_min_two (P : Program) (ats : Array TypeId) (ty : TypeId) (k k' : IntKind) (x y : Int) (w : World) : (Builtin.min_ ats ty #[.int k x, .int k' y]).run P w = .ok (.int k (min x y)) w := by
  simp [Builtin.min_, Builtin.min2]
  split <;> omega
/-- A slice of strings that is only read. -/
def RdS (w : World) (v : Value) (l : List ByteArray) : Prop := ∃ a c, v = .slice a l.length c ∧ l.length ≤ c ∧ c ≤ maxLen ∧ ∀ j s, l[j]? = some s → ∃ b off, a = some ⟨b, off, none⟩ ∧ w.cell? ⟨b, off + j, none⟩ = some (.string s)
theorem RdS.below {w w' : World} {v : Value} {l : List ByteArray} {N : Nat} (h : RdS w v l) (hb : Below N w w') (hN : w.heap.size ≤ N) : RdS w' v l := by
  obtain ⟨a, c, rfl, h1, h2, h3⟩ := h
  refine ⟨a, c, rfl, h1, h2, fun j s hj => ?_⟩
  obtain ⟨b, off, rfl, hc⟩ := h3 j s hj
  exact ⟨b, off, rfl, (hb.cell (Nat.lt_of_lt_of_le (World.block_lt_of_cell? w _ hc) hN)).trans hc⟩
theorem RdS.of_row {w : World} {base : Nat} {e : TypeId} {v : Value} {l : List ByteArray} (h : w.ownsRow base e 1 v l.length (l.map .string)) : RdS w v l := by
  rcases h.2 with ⟨rfl, hn⟩ | ⟨g, cap, cur, rfl, _, hg, hc, hm, _⟩
  · obtain rfl : l = [] := List.eq_nil_of_length_eq_zero hn
    exact ⟨none, 0, rfl, Nat.le_refl _, Nat.zero_le _, fun j s hj => by simp at hj⟩
  · refine ⟨some ⟨g, 0, none⟩, cap, rfl, hc, hm, fun j s hj => ⟨g, 0, rfl, ?_⟩⟩
    have := h.cells (g := g) rfl j (.string s) (by simp [hj])
    have e : (⟨g, 0, none⟩ : Addr).add j = ⟨g, 0 + j, none⟩ := by unfold Addr.add; split <;> simp_all
    rwa [e] at this
end Go.Proofs.Ytmjfmfelbmbniaa.HK
