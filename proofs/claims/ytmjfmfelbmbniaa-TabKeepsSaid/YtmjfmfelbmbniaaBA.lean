/- Texts of layers 12 to 14, one behind the other: plain models, what stands in memory, the functions' contracts. -/
import Derived.WalkKit
import Derived.WalkSpells
import Derived.Lib.Hide
import Derived.Maps.OwnOps
import Derived.Maps.OwnSet
import Derived.Maps.AppendAt
import Derived.Deep.AppendLies
import Derived.StringKeys
import Derived.Deep.QuietTactic
import Derived.BigQuiet
import Derived.Test.YtmjfmfelbmbniaaProg
import Derived.Outline
import Derived.Laws.Externs
import Derived.MapKept
import Derived.KernelRfl
import Derived.Shelf.SlMaps.Clone
import Derived.OrdersHeld
import Derived.StillTailTactics
import Derived.Deep.RegionHeld3
import Derived.Deep.DeepCutAuto
import Derived.Deep.CutBlock
import Derived.Deep.DrawnRows
import Derived.LoopTactic
import Derived.Deep.Upon
import Derived.Laws.BitsLemmas
/- Blocks of memory: what one block holds, what a call may have changed, a map with string keys as a function. Plain lemmas over any program. -/
namespace Go.Proofs.Ytmjfmfelbmbniaa.HK
open Go.RowKit Go.Maps Go.WideMaps
set_option linter.unusedVariables false
set_option linter.unusedSectionVars false
/-- Block b holds just these cells, of this type, none of them marked. -/
def Blk (w : World) (b : Nat) (t : TypeId) (cs : List Value) : Prop := w.heap[b]? = some (.cells cs.toArray t (0, 0))

section
variable {w w' : World} {b : Nat} {t : TypeId} {cs : List Value}
theorem Blk.lt (h : Blk w b t cs) : b < w.heap.size := (Array.getElem?_eq_some_iff.1 h).1
theorem Blk.of (h : Blk w b t cs) (e : w'.heap[b]? = w.heap[b]?) : Blk w' b t cs := e.trans h
theorem Blk.cell (h : Blk w b t cs) (i : Nat) (v : Value) (hi : cs[i]? = some v) : w.cell? ⟨b, i, none⟩ = some v := by
  simp [World.cell?, show w.heap[b]? = _ from h, hi]
theorem Blk.frozen (h : Blk w b t cs) (i : Nat) : w.frozen? ⟨b, i, none⟩ = false := by
  simp [World.frozen?, show w.heap[b]? = _ from h]
theorem Blk.ne {c : Nat} {u : TypeId} {ds : List Value} (h : Blk w b t cs) (k : Blk w c u ds) (hne : t ≠ u) : b ≠ c := by
  rintro rfl
  have := (show w.heap[b]? = _ from h).symm.trans k
  simp at this
  exact hne this.2
theorem Blk.inj {u : TypeId} {ds : List Value} (h : Blk w b t cs) (k : Blk w b u ds) : t = u ∧ cs = ds := by
  have := (show w.heap[b]? = _ from h).symm.trans k
  simp at this
  exact ⟨this.2, this.1⟩
theorem Blk.setSame (h : Blk w b t cs) (i : Nat) (v : Value) : Blk (w.setCell ⟨b, i, none⟩ v) b t (cs.set i v) := by
  unfold Blk World.setCell
  simp only [Array.getElem?_modify, if_true, show w.heap[b]? = _ from h, Option.map_some]
  simp
theorem Blk.setOther (h : Blk w b t cs) {a : Addr} (hne : b ≠ a.block) (v : Value) : Blk (w.setCell a v) b t cs :=
  h.of (Below.heap_setCell _ _ _ _ hne)
theorem Blk.alloc (h : Blk w b t cs) (o : Obj) : Blk (w.alloc o) b t cs := h.of (Below.heap_alloc _ _ _ h.lt)
theorem Blk.new (w : World) (cs : List Value) (t : TypeId) : Blk (w.alloc (.cells cs.toArray t)) w.heap.size t cs := by
  unfold Blk World.alloc; simp
theorem Blk.map_ne {c : Nat} {es : Array MapEntry} {n : Nat} (h : Blk w b t cs) (k : w.heap[c]? = some (.map es n)) : b ≠ c := by
  rintro rfl
  have := (show w.heap[b]? = _ from h).symm.trans k
  simp at this
end
/-- Between the two worlds nothing has changed but blocks of B, and new ones. -/
structure Chg (B : Nat → Prop) (w w' : World) : Prop where
  os : w'.os = w.os
  tape : w'.tape = w.tape
  output : w'.output = w.output
  size : w.heap.size ≤ w'.heap.size
  block : ∀ b, b < w.heap.size → ¬ B b → w'.heap[b]? = w.heap[b]?
section
variable {B C : Nat → Prop} {w w1 w2 : World}
theorem Chg.refl (B : Nat → Prop) (w : World) : Chg B w w := ⟨rfl, rfl, rfl, Nat.le_refl _, fun _ _ _ => rfl⟩
theorem Chg.mono (h : Chg B w w1) (hs : ∀ b, b < w.heap.size → B b → C b) : Chg C w w1 := ⟨h.os, h.tape, h.output, h.size, fun b hb hn => h.block b hb (fun hB => hn (hs b hb hB))⟩
theorem Chg.trans (h : Chg B w w1) (k : Chg C w1 w2) (hs : ∀ b, b < w.heap.size → C b → B b) : Chg B w w2 :=
  ⟨k.os.trans h.os, k.tape.trans h.tape, k.output.trans h.output, Nat.le_trans h.size k.size, fun b hb hn => (k.block b (Nat.lt_of_lt_of_le hb h.size) (fun hC => hn (hs b hb hC))).trans (h.block b hb hn)⟩
theorem Chg.grown {row : Option Nat} (h : Chg B w w1) (hg : w1.grownBy w2 row) (hr : ∀ k, row = some k → k < w.heap.size → B k) : Chg B w w2 :=
  h.trans (C := fun b => row = some b) ⟨hg.os, hg.tape, hg.output, hg.size, fun b hb hn => hg.block b hb (fun e => hn e.symm)⟩ (fun b hb e => hr b e hb)
theorem Chg.alloc (h : Chg B w w1) (o : Obj) : Chg B w (w1.alloc o) := h.grown (World.grownBy_alloc _ _ none) (fun _ e => by cases e)
theorem Chg.setCell (h : Chg B w w1) {a : Addr} (ha : a.block < w.heap.size → B a.block) (v : Value) : Chg B w (w1.setCell a v) :=
  h.trans (C := fun b => b = a.block) ⟨rfl, rfl, rfl, by simp, fun b hb hn => Below.heap_setCell _ _ _ _ hn⟩ (fun b hb e => by subst e; exact ha hb)
theorem Chg.drewN (h : Chg B w w1) (n : Nat) : Chg B w (w1.drewN n) := ⟨h.os, h.tape, h.output, h.size, h.block⟩
theorem Chg.drew (h : Chg B w w1) : Chg B w w1.drew := ⟨h.os, h.tape, h.output, h.size, h.block⟩
theorem Chg.ofBelow (h : Below w.heap.size w w1) : Chg B w w1 := ⟨h.os, h.tape, h.output, h.size, fun b hb _ => h.block b hb⟩
theorem Chg.below (h : Chg B w w1) {N : Nat} (hN : N ≤ w.heap.size) (hB : ∀ b, B b → N ≤ b) : Below N w w1 :=
  ⟨h.os, h.tape, h.output, h.size, fun k hk => h.block k (Nat.lt_of_lt_of_le hk hN) (fun hb => by have := hB k hb; omega)⟩
end
/-- A string's literal, as a map's key. -/
abbrev key (s : ByteArray) : Lit := .string s.data.toList
theorem key_inj {s t : ByteArray} (h : key s = key t) : s = t := by
  have h1 : s.data.toList = t.data.toList := by simpa [key] using h
  have h2 : s.data = t.data := by rw [← Array.toArray_toList (xs := s.data), h1]
  cases s; cases t; simp_all

/-- Block b is a map from strings to numbers: as a function; n: how many keys there are. -/
def MI (P : Program) (k e : TypeId) (q : IntKind) (w : World) (b n : Nat) (f : ByteArray → Option Int) : Prop :=
  ∃ D : DataW Unit, w.ownsMap P k (plainElem P e) b n D ∧ Maps.size D = n ∧ ∀ s, s.size ≤ maxLen → Maps.has D (key s) = (f s).isSome ∧ D.atKey (key s) (.lit (.int q 0)) = .lit (.int q ((f s).getD 0))
section
variable {P : Program} {k e t : TypeId} {q : IntKind} {w w' : World} {b n : Nat} {f g : ByteArray → Option Int}
theorem MI.lt (h : MI P k e q w b n f) : b < w.heap.size := by obtain ⟨D, h, _⟩ := h; exact h.lt
theorem MI.obj (h : MI P k e q w b n f) : ∃ es c, w.heap[b]? = some (.map es c) := by obtain ⟨D, ⟨es, c, h, _⟩, _⟩ := h; exact ⟨es, c, h⟩
theorem MI.of (h : MI P k e q w b n f) (he : w'.heap[b]? = w.heap[b]?) : MI P k e q w' b n f := by
  obtain ⟨D, ⟨es, c, h1, h2⟩, h3⟩ := h
  exact ⟨D, ⟨es, c, he.trans h1, h2⟩, h3⟩
theorem MI.congr (h : MI P k e q w b n f) (hf : ∀ s, s.size ≤ maxLen → f s = g s) : MI P k e q w b n g := by
  obtain ⟨D, h1, h2, h3⟩ := h
  exact ⟨D, h1, h2, fun s hs => by rw [← hf s hs]; exact h3 s hs⟩
theorem MI.copied {b' : Nat} (h : MI P k e q w b n f) (he : w'.heap[b']? = w.heap[b]?) : MI P k e q w' b' n f := by
  obtain ⟨D, ⟨es, c, h1, h2⟩, h3⟩ := h
  exact ⟨D, ⟨es, c, he.trans h1, h2⟩, h3⟩
theorem MI.blk_ne {t : TypeId} {c : Nat} {cs : List Value} (h : MI P k e q w b n f) (hb : Blk w c t cs) : c ≠ b := by
  obtain ⟨es, n, h⟩ := h.obj
  exact hb.map_ne h
theorem MI.made (w : World) : MI P k e q (w.alloc (.map #[] 0)) w.heap.size 0 (fun _ => none) :=
  ⟨.map [], World.ownsMap_made _ _ _ _, rfl, fun s _ => ⟨rfl, by simp [DataW.atKey]⟩⟩
theorem MI.look (h : MI P k e q w b n f) (K : Keyed P k) (hk : P.underlying k = some .string) (ht : P.underlying t = some (.map k e)) (he : P.underlying e = some (.int q)) (hz : (zeroValue e).run P w = .ok (.int q 0) w)
    (s : ByteArray) (hs : s.size ≤ maxLen) : (Instr.lookup t (.map (some b)) (.string s) false).run P w = .ok (.int q ((f s).getD 0)) w := by
  obtain ⟨D, h1, h2, h3⟩ := h
  obtain ⟨c, hrun, hat, _⟩ := h1.lookup_int K ht he hz (keyOf_string_mk hk hs)
  rw [(h3 s hs).2] at hat
  simp only [DataW.lit.injEq, Lit.int.injEq, true_and] at hat
  rw [hrun, hat]
theorem MI.look_ok (h : MI P k e q w b n f) (K : Keyed P k) (hk : P.underlying k = some .string) (ht : P.underlying t = some (.map k e)) (he : P.underlying e = some (.int q)) (hz : (zeroValue e).run P w = .ok (.int q 0) w)
    (s : ByteArray) (hs : s.size ≤ maxLen) : (Instr.lookup t (.map (some b)) (.string s) true).run P w = .ok (.tuple #[.int q ((f s).getD 0), .bool (f s).isSome]) w := by
  obtain ⟨D, h1, h2, h3⟩ := h
  obtain ⟨v, ps, hrun, hv⟩ := h1.look_ok K ht hz (plainElem_int he (by cases q <;> decide)) (keyOf_string_mk hk hs)
  obtain ⟨c, rfl, hc, _⟩ := plainElem_int_inv he hv
  have hc1 := congrArg Prod.fst hc
  rw [(h3 s hs).2] at hc1
  simp only [DataW.lit.injEq, Lit.int.injEq, true_and] at hc1
  rw [hrun, ← hc1, (h3 s hs).1]
theorem MI.len (h : MI P k e q w b n f) (ht : P.underlying t = some (.map k e)) (ty : TypeId) : (Builtin.len_ #[t] ty #[.map (some b)]).run P w = .ok (.int .i64 n) w := by
  obtain ⟨D, h1, h2, h3⟩ := h
  rw [h1.len ht ty, h2]
theorem MI.store (h : MI P k e q w b n f) (K : Keyed P k) (hk : P.underlying k = some .string) (ht : P.underlying t = some (.map k e)) (he : P.underlying e = some (.int q)) (hn : n < maxLen)
    (s : ByteArray) (hs : s.size ≤ maxLen) (x : Int) (hx : (Lit.int q x).wf = true) :
    ∃ w', (Instr.mapUpdate t (.map (some b)) (.string s) (.int q x)).run P w = .ok () w' ∧ MI P k e q w' b (if (f s).isSome then n else n + 1) (fun z => if z = s then some x else f z) ∧ w.grownBy w' (some b) := by
  obtain ⟨D, h1, h2, h3⟩ := h
  have htidy := h1.tidy K
  obtain ⟨w', hrun, h4, h5⟩ := h1.update K ht hn (keyOf_string_mk hk hs) (plainElem_int he hx)
  refine ⟨w', hrun, ⟨D.put (key s) (.lit (.int q x)), ?_, ?_, ?_⟩, h5⟩
  · obtain ⟨es, c, hb, F, hsz, hD⟩ := h4
    refine ⟨es, c, hb, F, ?_, hD⟩
    have e1 : Maps.size (D.put (key s) (.lit (.int q x))) = es.size := by rw [hD, Maps.size_eq, length_read]
    rw [Maps.size_put htidy, h2, (h3 s hs).1] at e1
    rw [← e1]
    exact Nat.le_refl _
  · rw [Maps.size_put htidy, h2, (h3 s hs).1]
  · intro z hz
    by_cases e1 : z = s
    · subst e1
      rw [Maps.has_put_same htidy.isMap (by trivial), Maps.atKey_put_same htidy.isMap (by trivial)]
      simp
    · have e2 : key z ≠ key s := fun h => e1 (key_inj h)
      rw [Maps.has_put_other e2, Maps.atKey_put_other e2]
      simp [e1, (h3 z hz).1, (h3 z hz).2]
end
theorem run_max_two (P : Program) (ats : Array TypeId) (ty : TypeId) (k k' : IntKind) (x y : Int) (w : World) : (Builtin.max_ ats ty #[.int k x, .int k' y]).run P w = .ok (.int k (max x y)) w := by
  have e : (if x < y then y else x) = max x y := by split <;> omega
  simp [Builtin.max_, Builtin.max2, e, gt_iff_lt]
theorem run_min_two (P : Program) (ats : Array TypeId) (ty : TypeId) (k k' : IntKind) (x y : Int) (w : World) : (Builtin.min_ ats ty #[.int k x, .int k' y]).run P w = .ok (.int k (min x y)) w := by
  simp [Builtin.min_, Builtin.min2]
  split <;> omega
/-- A slice of strings that is only read. -/
def RdS (w : World) (v : Value) (l : List ByteArray) : Prop := ∃ a c, v = .slice a l.length c ∧ l.length ≤ c ∧ c ≤ maxLen ∧ ∀ j s, l[j]? = some s → ∃ b off, a = some ⟨b, off, none⟩ ∧ w.cell? ⟨b, off + j, none⟩ = some (.string s)
theorem RdS.below {w w' : World} {v : Value} {l : List ByteArray} {N : Nat} (h : RdS w v l) (hb : Below N w w') (hN : w.heap.size ≤ N) : RdS w' v l := by
  obtain ⟨a, c, rfl, h1, h2, h3⟩ := h
  refine ⟨a, c, rfl, h1, h2, fun j s hj => ?_⟩
  obtain ⟨b, off, rfl, hc⟩ := h3 j s hj
  exact ⟨b, off, rfl, (hb.cell (Nat.lt_of_lt_of_le (World.block_lt_of_cell? w _ hc) hN)).trans hc⟩
theorem RdS.of_row {w : World} {base : Nat} {e : TypeId} {v : Value} {l : List ByteArray} (h : w.ownsRow base e 1 v l.length (l.map .string)) : RdS w v l := by
  rcases h.2 with ⟨rfl, hn⟩ | ⟨g, cap, cur, rfl, _, hg, hc, hm, _⟩
  · obtain rfl : l = [] := List.eq_nil_of_length_eq_zero hn
    exact ⟨none, 0, rfl, Nat.le_refl _, Nat.zero_le _, fun j s hj => by simp at hj⟩
  · refine ⟨some ⟨g, 0, none⟩, cap, rfl, hc, hm, fun j s hj => ⟨g, 0, rfl, ?_⟩⟩
    have := h.cells (g := g) rfl j (.string s) (by simp [hj])
    have e : (⟨g, 0, none⟩ : Addr).add j = ⟨g, 0 + j, none⟩ := by unfold Addr.add; split <;> simp_all
    rwa [e] at this
end Go.Proofs.Ytmjfmfelbmbniaa.HK

/- Layer 12 without memory: shapes as a list of their keys and parents; what adding a key does; which of the noted names a list of keys has. -/
namespace Go.Proofs.Ytmjfmfelbmbniaa.ShM
set_option linter.unusedVariables false
set_option linter.unusedSimpArgs false
instance memBytes (m : ByteArray) (l : List ByteArray) : Decidable (m ∈ l) := @List.instDecidableMemOfLawfulBEq ByteArray instBEqOfDecidableEq inferInstance m l
/-- A shape: its keys, and its parent's number (the first one's: -1). -/
abbrev Sh := List ByteArray × Int
def slotOf : List ByteArray → ByteArray → Option Nat
  | [], _ => none
  | k :: r, s => if k = s then some 0 else (slotOf r s).map (· + 1)
def kidFrom : List Sh → Nat → Int → ByteArray → Option Nat
  | [], _, _, _ => none
  | x :: r, j, i, z => if x.2 = i ∧ x.1.getLast? = some z then some j else kidFrom r (j + 1) i z
def kidCount (T : List Sh) (i : Int) : Nat := (T.filter fun x => decide (x.2 = i)).length
def bitsOf : List ByteArray → (ByteArray → Bool) → Nat
  | [], _ => 0
  | m :: r, p => (if p m then 1 else 0) + 2 * bitsOf r p
/-- Which names are among these keys. -/
def marksOf (names keys : List ByteArray) : Nat := bitsOf names fun m => decide (m ∈ keys)
def markF (names : List ByteArray) (s : ByteArray) : Option Int := if s ∈ names then some (bitsOf names fun m => decide (m = s) : Nat) else none
structure Out where
  r : Int
  ok : Bool
  T : List Sh
def addM (deep fan : Int) (T : List Sh) (i : Int) (z : ByteArray) : Out :=
  if i < 0 ∨ (T.length : Int) ≤ i then ⟨0, false, T⟩ else
  let ks := (T.getD i.toNat ([], 0)).1
  if z ∈ ks then ⟨0, false, T⟩ else
  match kidFrom T 0 i z with
  | some j => ⟨j, true, T⟩
  | none => if deep ≤ ks.length ∨ fan ≤ kidCount T i ∨ 4096 ≤ T.length then ⟨0, false, T⟩ else ⟨T.length, true, T ++ [(ks ++ [z], i)]⟩
/-- What holds of the shapes of a tree. -/
structure WF (deep : Int) (T : List Sh) : Prop where
  pos : 0 < T.length
  le : T.length ≤ 4096
  deep0 : 0 ≤ deep
  deep64 : deep ≤ 64
  root : (T.getD 0 ([], 0)).1 = []
  keys : ∀ i, i < T.length → ((T.getD i ([], 0)).1.length : Int) ≤ deep
  nodup : ∀ i, i < T.length → (T.getD i ([], 0)).1.Nodup
  par : ∀ i, i < T.length → (T.getD i ([], 0)).2 < i
  path : ∀ i, i < T.length → ∀ p : Nat, (T.getD i ([], 0)).2 = p → ∃ z, z ∉ (T.getD p ([], 0)).1 ∧ (T.getD i ([], 0)).1 = (T.getD p ([], 0)).1 ++ [z]

theorem slotOf_none {l : List ByteArray} {s : ByteArray} : slotOf l s = none ↔ s ∉ l := by
  induction l with
  | nil => simp [slotOf]
  | cons k r ih =>
    unfold slotOf
    by_cases h : k = s
    · subst h; simp
    · simp [h, ih, Ne.symm h]
theorem slotOf_isSome (l : List ByteArray) (s : ByteArray) : (slotOf l s).isSome = decide (s ∈ l) := by
  by_cases h : s ∈ l
  · cases e : slotOf l s with
    | none => exact absurd h (slotOf_none.1 e)
    | some j => simp [h]
  · rw [slotOf_none.2 h]; simp [h]
theorem slotOf_snoc (l : List ByteArray) (k s : ByteArray) (hk : k ∉ l) : slotOf (l ++ [k]) s = if s = k then some l.length else slotOf l s := by
  induction l with
  | nil => simp [slotOf, eq_comm]
  | cons x r ih =>
    have hx : x ≠ k := fun e => hk (by simp [e])
    have ih := ih (fun h => hk (by simp [h]))
    simp only [List.cons_append, slotOf, ih]
    by_cases h : x = s
    · subst h; simp [hx]
    · by_cases h2 : s = k <;> simp [h, h2]
      subst h2; exact hx
theorem slotOf_get {l : List ByteArray} {s : ByteArray} {j : Nat} (h : slotOf l s = some j) : l[j]? = some s := by
  induction l generalizing j with
  | nil => simp [slotOf] at h
  | cons k r ih =>
    unfold slotOf at h
    by_cases e : k = s
    · subst e; simp at h; subst h; simp
    · simp [e] at h; obtain ⟨m, h1, rfl⟩ := h; simpa using ih h1
theorem slotOf_at {l : List ByteArray} (hn : l.Nodup) {j : Nat} {s : ByteArray} (h : l[j]? = some s) : slotOf l s = some j := by
  induction l generalizing j with
  | nil => simp at h
  | cons k r ih =>
    unfold slotOf
    have hn' := List.nodup_cons.1 hn
    cases j with
    | zero => simp at h; simp [h]
    | succ j =>
      simp at h
      have hne : k ≠ s := fun e => hn'.1 (e ▸ List.mem_of_getElem? h)
      simp [hne, ih hn'.2 h]
theorem kidFrom_append (T U : List Sh) (j : Nat) (i : Int) (z : ByteArray) : kidFrom (T ++ U) j i z = (match kidFrom T j i z with | some n => some n | none => kidFrom U (j + T.length) i z) := by
  induction T generalizing j with
  | nil => simp [kidFrom]
  | cons x r ih =>
    simp only [List.cons_append, kidFrom]
    split
    · rfl
    · rw [ih]; simp only [List.length_cons, show j + 1 + r.length = j + (r.length + 1) by omega]
theorem kidFrom_none_of {T : List Sh} {j : Nat} {i : Int} (h : ∀ x ∈ T, x.2 ≠ i) (z : ByteArray) : kidFrom T j i z = none := by
  induction T generalizing j with
  | nil => rfl
  | cons x r ih =>
    simp only [kidFrom]
    rw [if_neg (fun e => h x (by simp) e.1), ih (fun y hy => h y (by simp [hy]))]
theorem kidFrom_spec {T : List Sh} {j n : Nat} {i : Int} {z : ByteArray} (h : kidFrom T j i z = some n) : j ≤ n ∧ ∃ x, T[n - j]? = some x ∧ x.2 = i ∧ x.1.getLast? = some z := by
  induction T generalizing j with
  | nil => simp [kidFrom] at h
  | cons x r ih =>
    simp only [kidFrom] at h
    split at h
    · rename_i hc; simp at h; subst h; exact ⟨Nat.le_refl _, x, by simp, hc⟩
    · obtain ⟨h1, y, h2, h3⟩ := ih h
      refine ⟨by omega, y, ?_, h3⟩
      rw [show n - j = (n - (j + 1)) + 1 by omega]; simpa using h2
theorem kidCount_append (T U : List Sh) (i : Int) : kidCount (T ++ U) i = kidCount T i + kidCount U i := by simp [kidCount]
theorem kidCount_none {T : List Sh} {i : Int} (h : ∀ x ∈ T, x.2 ≠ i) : kidCount T i = 0 := by
  simp only [kidCount, List.length_eq_zero_iff, List.filter_eq_nil_iff, decide_eq_true_eq]
  exact h
theorem kidCount_le (T : List Sh) (i : Int) : kidCount T i ≤ T.length := List.length_filter_le _ _
theorem testBit_bitsOf (l : List ByteArray) (p : ByteArray → Bool) (i : Nat) : (bitsOf l p).testBit i = (match l[i]? with | some m => p m | none => false) := by
  induction l generalizing i with
  | nil => simp [bitsOf]
  | cons m r ih =>
    unfold bitsOf
    cases i with
    | zero =>
      simp only [Nat.testBit_zero, List.getElem?_cons_zero]
      cases p m <;> simp <;> omega
    | succ i =>
      rw [Nat.testBit_succ]
      have : ((if p m = true then 1 else 0) + 2 * bitsOf r p) / 2 = bitsOf r p := by split <;> omega
      rw [this, ih]; simp
theorem bitsOf_or (l : List ByteArray) (p q : ByteArray → Bool) : bitsOf l p ||| bitsOf l q = bitsOf l (fun m => p m || q m) := by
  apply Nat.eq_of_testBit_eq
  intro i
  rw [Nat.testBit_or, testBit_bitsOf, testBit_bitsOf, testBit_bitsOf]
  cases l[i]? <;> simp
theorem bitsOf_lt (l : List ByteArray) (p : ByteArray → Bool) : bitsOf l p < 2 ^ l.length := by
  induction l with
  | nil => simp [bitsOf]
  | cons m r ih =>
    unfold bitsOf
    simp only [List.length_cons, Nat.pow_succ]
    split <;> omega
theorem bitsOf_snoc (l : List ByteArray) (m : ByteArray) (p : ByteArray → Bool) : bitsOf (l ++ [m]) p = bitsOf l p + if p m then 2 ^ l.length else 0 := by
  induction l with
  | nil => simp [bitsOf]
  | cons x r ih =>
    simp only [List.cons_append, bitsOf, ih, List.length_cons, Nat.pow_succ]
    split <;> split <;> omega
theorem bitsOf_congr {l : List ByteArray} {p q : ByteArray → Bool} (h : ∀ m ∈ l, p m = q m) : bitsOf l p = bitsOf l q := by
  induction l with
  | nil => rfl
  | cons x r ih => simp only [bitsOf]; rw [h x (by simp), ih (fun m hm => h m (by simp [hm]))]
theorem bitsOf_zero {l : List ByteArray} {p : ByteArray → Bool} (h : ∀ m ∈ l, p m = false) : bitsOf l p = 0 := by
  rw [bitsOf_congr (q := fun _ => false) h]
  induction l with
  | nil => rfl
  | cons x r ih => simp only [bitsOf]; rw [ih (fun m hm => h m (by simp [hm]))]; simp
theorem markF_getD (names : List ByteArray) (z : ByteArray) : ((markF names z).getD 0) = ((bitsOf names fun m => decide (m = z) : Nat) : Int) := by
  unfold markF
  split
  · rfl
  · rename_i h
    rw [bitsOf_zero]
    · rfl
    · intro m hm; simp; rintro rfl; exact h hm
theorem marksOf_snoc (names ks : List ByteArray) (z : ByteArray) : marksOf names ks ||| (bitsOf names fun m => decide (m = z)) = marksOf names (ks ++ [z]) := by
  unfold marksOf
  rw [bitsOf_or]
  apply bitsOf_congr
  intro m _
  simp
theorem marksOf_lt (names ks : List ByteArray) (h : names.length ≤ 64) : marksOf names ks < 2 ^ 64 :=
  Nat.lt_of_lt_of_le (bitsOf_lt _ _) (Nat.pow_le_pow_right (by omega) h)
theorem getD_append_left {α : Type} {T U : List α} {i : Nat} {d : α} (h : i < T.length) : (T ++ U).getD i d = T.getD i d := by
  simp [List.getD, List.getElem?_append_left h]
theorem getD_snoc {α : Type} (T : List α) (x d : α) : (T ++ [x]).getD T.length d = x := by
  simp [List.getD]
theorem mem_getD {T : List Sh} {x : Sh} (h : x ∈ T) : ∃ i, i < T.length ∧ T.getD i ([], 0) = x := by
  obtain ⟨i, hi, e⟩ := List.getElem_of_mem h
  exact ⟨i, hi, by simp [List.getD, List.getElem?_eq_getElem hi, e]⟩
theorem WF.par_lt {deep : Int} {T : List Sh} (h : WF deep T) : ∀ x ∈ T, x.2 < T.length := by
  intro x hx
  obtain ⟨i, hi, rfl⟩ := mem_getD hx
  have := h.par i hi
  omega
theorem WF.add {deep fan : Int} {T : List Sh} (h : WF deep T) (i : Int) (z : ByteArray) : WF deep (addM deep fan T i z).T := by
  unfold addM
  split
  · exact h
  · rename_i hi
    dsimp only
    split
    · exact h
    · rename_i hz
      split
      · exact h
      · split
        · exact h
        · rename_i hd
          have hi2 : i.toNat < T.length := by omega
          have hl := h.pos
          refine ⟨by simp, by simp; omega, h.deep0, h.deep64, by rw [getD_append_left hl]; exact h.root, ?_, ?_, ?_, ?_⟩
          all_goals
            intro j hj
            simp only [List.length_append, List.length_singleton] at hj
            by_cases e : j < T.length
            · rw [getD_append_left e]
              first
                | exact h.keys j e
                | exact h.nodup j e
                | exact h.par j e
                | (intro p hp; have hpar := h.par j e; rw [getD_append_left (by omega)]; exact h.path j e p hp)
            · obtain rfl : j = T.length := by omega
              rw [getD_snoc]
              first
                | (simp only [List.length_append, List.length_singleton]; omega)
                | (simp only [List.nodup_append]; refine ⟨h.nodup _ hi2, by simp, ?_⟩; intro a ha b hb; simp at hb; rintro rfl; exact hz (hb ▸ ha))
                | (dsimp only; omega)
                | (intro p hp; dsimp only at hp; obtain rfl : p = i.toNat := by omega
                   rw [getD_append_left hi2]; exact ⟨z, hz, rfl⟩)
end Go.Proofs.Ytmjfmfelbmbniaa.ShM

/- Layer 12: copies of a list of strings and of a map; a tree of shapes in memory. -/
namespace Go.Proofs.Ytmjfmfelbmbniaa
open Go.RowKit Go.Maps HK ShM
set_option linter.unusedVariables false
set_option linter.unusedSimpArgs false
theorem law9 : Keyed Try.prog 9 := string_keyed Try.underlying9
theorem zero3 (w : World) : (zeroValue 3).run Try.prog w = .ok (.int .i64 0) w := by kernel_rfl
theorem zero38 (w : World) : (zeroValue 38).run Try.prog w = .ok (.int .u64 0) w := by kernel_rfl
theorem info9 : (Try.prog.info? 9).map (fun i => (i.zero, i.size, i.bytes)) = some (some (.string ByteArray.empty), 1, 16) := by kernel_rfl
theorem info171 : (Try.prog.info? 171).map (fun i => (i.zero, i.size, i.bytes)) = some (some (.pointer none), 1, 8) := by kernel_rfl
/-- A row of strings: what a slice value holds. -/
abbrev Strs (w : World) (v : Value) (ks : List ByteArray) : Prop := w.ownsRow 0 9 1 v ks.length (ks.map .string)
theorem strs_oneCell (ks : List ByteArray) : ∀ u ∈ ks.map Value.string, u.oneCell' = true := by
  intro u hu; obtain ⟨s, _, rfl⟩ := List.mem_map.1 hu; rfl
theorem addr0 (b j : Nat) : (⟨b, 0, none⟩ : Addr).add j = ⟨b, j, none⟩ := by unfold Addr.add; split <;> simp_all
theorem clone_nil (w : World) : Calls Try.prog 104 #[.slice none 0 0] w fun e w' => e = .returned (.slice none 0 0) ∧ w = w' := by
  have q := fun (w : World) (a : Option Addr) (l c : Nat) => Lib.run_eql_slice_nil (P := Try.prog) w 22 9 a l c 0 0 Try.underlying22
  go_enter Try.func104, Try.ntmps104
  go_wp2
  go_ret
  exact ⟨rfl, rfl⟩
set_option maxHeartbeats 1000000 in
theorem clone_strs (w : World) (b n cap : Nat) (ks : List ByteArray) (h : Strs w (.slice (some ⟨b, 0, none⟩) n cap) ks) (hn : n = ks.length) (hb : ks.length ≤ 1000000) :
    Calls Try.prog 104 #[.slice (some ⟨b, 0, none⟩) n cap] w fun e w' => ∃ v, e = .returned v ∧ Strs w' v ks ∧ (∀ g, v.ownBlock = some g → w.heap.size ≤ g) ∧ (∃ a m, v = .slice (some a) ks.length m) ∧ Below w.heap.size w w' := by
  subst hn
  obtain ⟨i0, hi, hz0, hz1, hz2⟩ := info_parts info9
  have hm : maxLen = 9223372036854775807 := rfl
  have hl : (ks.map Value.string).length = ks.length * 1 := by simp
  have hc : ∀ j u, (ks.map Value.string)[j]? = some u → (w.alloc (.cells #[] 9)).cell? ((⟨b, 0, none⟩ : Addr).add j) = some u := fun j u hu => (h.alloc _).cells (g := b) rfl j u hu
  have ho : (w.alloc (.cells #[] 9)).ownsRow w.heap.size 9 1 (.slice (some ⟨w.heap.size, 0, none⟩) 0 0) 0 [] := World.ownsRow_made w #[] 0 (Nat.le_refl _) (by omega) rfl
  have H0 := Lib.hid hc
  have H1 := Lib.hid ho
  have H2 := Lib.hid hl
  have H3 := Lib.hid hb
  have H4 := Lib.hid hm
  clear hc ho hl h hb hm
  have q := fun (w : World) (a : Option Addr) (l c : Nat) => Lib.run_eql_slice_nil (P := Try.prog) w 22 9 a l c 0 0 Try.underlying22
  go_enter Try.func104, Try.ntmps104
  go_wp2_with (at_builtin; refine wpList_append_own_at _ rfl _ _ 22 rfl w.heap.size 9 i0 (.string ByteArray.empty) 1 16 Try.underlying22 hi hz0 hz1 hz2 rfl (by decide) _ 0 [] rfl H1.out ⟨b, 0, none⟩ ks.length cap (ks.map .string) rfl H2.out H0.out (strs_oneCell ks) (by have := H3.out; have := H4.out; omega) (by have := H3.out; omega) (by simp) ?_; intro v w1 hown hg hnil hat)
  go_ret
  rw [Nat.zero_add, List.nil_append] at hown
  refine ⟨v, rfl, ⟨hown.1, ?_⟩, fun g hv => (hown.lt g hv).1, ?_, ((Below.refl _ _).alloc (Nat.le_refl _) _).grown hg (by simp) (fun k hk => by cases hk; exact Nat.le_refl _)⟩
  · rcases hown.2 with h | ⟨g, c, cur, h1, _, h3⟩
    · exact .inl h
    · exact .inr ⟨g, c, cur, h1, Nat.zero_le _, h3⟩
  · rcases hown.2 with ⟨h, _⟩ | ⟨g, c, cur, h1, _⟩
    · have := (hnil.1 h).1; cases this
    · exact ⟨_, _, h1⟩
set_option maxHeartbeats 1000000 in
set_option maxRecDepth 10000 in
theorem clone_map (b : Nat) (es : Array MapEntry) (clock : Nat) (w : World) (hb : w.heap[b]? = some (.map es clock)) :
    Calls Try.prog 105 #[.map (some b)] w fun e w' => e = .returned (.map (some w.heap.size)) ∧ w' = w.alloc (.map es clock) := by
  have hq := fun w => run_eql_map_nil_sl (P := Try.prog) w 173 9 3 (some b) Try.underlying173
  have hta := fun (w : World) (v : Value) => run_typeAssert_map_sl (P := Try.prog) w 173 20 9 3 v Try.underlying173
  go_enter Try.func105, Try.ntmps105
  go_wp2
  rw [run_callFunc_extern Try.func147 (by kernel_rfl) (by kernel_rfl) (by kernel_rfl) (e := Extern.MapsClone.clone) (by kernel_rfl), run_maps_clone_sl w 173 hb]
  simp only [Result.andThen]
  rw [Oper.upon_value]
  go_wp2
  go_ret
  exact ⟨rfl, rfl⟩
end Go.Proofs.Ytmjfmfelbmbniaa

/- Layer 12: a tree of shapes as it lies in memory; the calls that only read it. -/
namespace Go.Proofs.Ytmjfmfelbmbniaa
open Go.RowKit Go.Maps HK ShM
set_option linter.unusedVariables false
set_option linter.unusedSimpArgs false
theorem ownsRow_of {w w' : World} {base : Nat} {e : TypeId} {size : Nat} {v : Value} {n : Nat} {xs : List Value} (h : w.ownsRow base e size v n xs) (hb : ∀ g, v.ownBlock = some g → w'.heap[g]? = w.heap[g]?) : w'.ownsRow base e size v n xs := by
  refine ⟨h.1, ?_⟩
  rcases h.2 with h | ⟨g, cap, cur, rfl, h1, h2, h3⟩
  · exact .inl h
  · exact .inr ⟨g, cap, cur, rfl, h1, (hb g rfl).trans h2, h3⟩
theorem mapD (o : Option Nat) : (o.map Int.ofNat).getD 0 = (o.getD 0 : Nat) := by cases o <;> rfl
theorem mapS (o : Option Nat) : (o.map Int.ofNat).isSome = o.isSome := by cases o <;> rfl
/-- Where a tree's parts lie. -/
structure Lay where
  mb : Nat
  vb : Nat
  cap : Nat
  nb : Nat → Nat
  kv : Nat → Value
  sb : Nat → Nat
  cb : Nat → Nat
abbrev ksOf (T : List Sh) (i : Nat) : List ByteArray := (T.getD i ([], 0)).1
abbrev slotF (ks : List ByteArray) (s : ByteArray) : Option Int := (slotOf ks s).map Int.ofNat
abbrev kidF (T : List Sh) (i : Nat) (s : ByteArray) : Option Int := (kidFrom T 0 i s).map Int.ofNat
structure TreeIn (w : World) (B : Nat → Prop) (tb : Nat) (deep fan : Int) (names : List ByteArray) (T : List Sh) (L : Lay) : Prop where
  hd : Blk w tb 179 [.int .i64 deep, .int .i64 fan, .map (some L.mb), .slice (some ⟨L.vb, 0, none⟩) T.length L.cap]
  mrk : ∃ n, MI Try.prog 9 38 .u64 w L.mb n (markF names)
  row : w.ownsRow 0 171 1 (.slice (some ⟨L.vb, 0, none⟩) T.length L.cap) T.length ((List.range T.length).map fun i => .pointer (some ⟨L.nb i, 0, none⟩))
  node : ∀ i, i < T.length → Blk w (L.nb i) 175 [L.kv i, .map (some (L.sb i)), .map (some (L.cb i)), .int .u64 (marksOf names (ksOf T i) : Nat)]
  keys : ∀ i, i < T.length → Strs w (L.kv i) (ksOf T i)
  slots : ∀ i, i < T.length → MI Try.prog 9 3 .i64 w (L.sb i) (ksOf T i).length (slotF (ksOf T i))
  kids : ∀ i, i < T.length → MI Try.prog 9 3 .i64 w (L.cb i) (kidCount T i) (kidF T i)
  inj : ∀ i j, i < T.length → j < T.length → L.cb i = L.cb j → i = j
  cs : ∀ i j, i < T.length → j < T.length → L.cb i ≠ L.sb j
  cm : ∀ i, i < T.length → L.cb i ≠ L.mb
  wf : WF deep T
  fan0 : 0 ≤ fan
  fan64 : fan ≤ 64
  nm : names.length ≤ 64
  ownT : B tb
  ownM : B L.mb
  ownV : B L.vb
  ownN : ∀ i, i < T.length → B (L.nb i) ∧ B (L.sb i) ∧ B (L.cb i) ∧ ∀ g, (L.kv i).ownBlock = some g → B g
  lt : ∀ b, B b → b < w.heap.size
def TreeAt (w : World) (B : Nat → Prop) (tb : Nat) (deep fan : Int) (names : List ByteArray) (T : List Sh) : Prop := ∃ L, TreeIn w B tb deep fan names T L
section
variable {w w' : World} {B : Nat → Prop} {tb : Nat} {deep fan : Int} {names : List ByteArray} {T : List Sh} {L : Lay}
theorem TreeIn.of (h : TreeIn w B tb deep fan names T L) (hs : w.heap.size ≤ w'.heap.size) (hb : ∀ b, B b → w'.heap[b]? = w.heap[b]?) : TreeIn w' B tb deep fan names T L := by
  obtain ⟨n, hm⟩ := h.mrk
  exact { h with
    hd := h.hd.of (hb _ h.ownT)
    mrk := ⟨n, hm.of (hb _ h.ownM)⟩
    row := ownsRow_of h.row (fun g hg => by cases hg; exact hb _ h.ownV)
    node := fun i hi => (h.node i hi).of (hb _ (h.ownN i hi).1)
    keys := fun i hi => ownsRow_of (h.keys i hi) (fun g hg => hb _ ((h.ownN i hi).2.2.2 g hg))
    slots := fun i hi => (h.slots i hi).of (hb _ (h.ownN i hi).2.1)
    kids := fun i hi => (h.kids i hi).of (hb _ (h.ownN i hi).2.2.1)
    lt := fun b hB => Nat.lt_of_lt_of_le (h.lt b hB) hs }
theorem TreeAt.of (h : TreeAt w B tb deep fan names T) (hs : w.heap.size ≤ w'.heap.size) (hb : ∀ b, B b → w'.heap[b]? = w.heap[b]?) : TreeAt w' B tb deep fan names T := by
  obtain ⟨L, h⟩ := h; exact ⟨L, h.of hs hb⟩
theorem TreeAt.below (h : TreeAt w B tb deep fan names T) (hb : Below w.heap.size w w') : TreeAt w' B tb deep fan names T := by
  obtain ⟨L, h⟩ := h; exact ⟨L, h.of hb.size fun b hB => hb.block b (h.lt b hB)⟩
theorem TreeIn.below (h : TreeIn w B tb deep fan names T L) (hb : Below w.heap.size w w') : TreeIn w' B tb deep fan names T L := h.of hb.size fun b hB => hb.block b (h.lt b hB)
theorem TreeAt.chg {C : Nat → Prop} (h : TreeAt w B tb deep fan names T) (hc : Chg C w w') (hd : ∀ b, B b → ¬ C b) : TreeAt w' B tb deep fan names T := by
  obtain ⟨L, h⟩ := h; exact ⟨L, h.of hc.size fun b hB => hc.block b (h.lt b hB) (hd b hB)⟩
theorem TreeIn.cell_row (h : TreeIn w B tb deep fan names T L) (i : Nat) (hi : i < T.length) : w.cell? ⟨L.vb, i, none⟩ = some (.pointer (some ⟨L.nb i, 0, none⟩)) := by
  have := h.row.cells (g := L.vb) rfl i (.pointer (some ⟨L.nb i, 0, none⟩)) (by simp [hi])
  rwa [addr0] at this
/-! ### the calls that only read -/
theorem at_miss (h : TreeIn w B tb deep fan names T L) (i : Int) (hi : i < 0 ∨ (T.length : Int) ≤ i) : Calls Try.prog 103 #[.pointer (some ⟨tb, 0, none⟩), .int .i64 i] w fun e w' => e = .returned (.pointer none) ∧ w = w' := by
  have c := h.hd.cell 3 _ rfl
  have hl : T.length ≤ 4096 := h.wf.le
  clear h
  by_cases h0 : i < 0
  · clear hi
    go_enter Try.func103, Try.ntmps103
    go_wp2
    go_ret
    exact ⟨rfl, rfl⟩
  · have h2 : (T.length : Int) ≤ i := by omega
    clear hi
    generalize T.length = n at *
    go_enter Try.func103, Try.ntmps103
    go_wp2
    go_ret
    exact ⟨rfl, rfl⟩
theorem at_hit (h : TreeIn w B tb deep fan names T L) (i : Nat) (hi : i < T.length) : Calls Try.prog 103 #[.pointer (some ⟨tb, 0, none⟩), .int .i64 i] w fun e w' => e = .returned (.pointer (some ⟨L.nb i, 0, none⟩)) ∧ w = w' := by
  have c := h.hd.cell 3 _ rfl
  have c2 := h.cell_row i hi
  have hl : T.length ≤ 4096 := h.wf.le
  clear h
  generalize T.length = n at *
  go_enter Try.func103, Try.ntmps103
  go_wp2
  go_ret
  exact ⟨rfl, rfl⟩
theorem at_nil (i : Int) (w : World) : Calls Try.prog 103 #[.pointer none, .int .i64 i] w fun e w' => e = .returned (.pointer none) ∧ w = w' := by
  go_enter Try.func103, Try.ntmps103
  go_wp2
  go_ret
  exact ⟨rfl, rfl⟩
theorem len_calls (h : TreeAt w B tb deep fan names T) : Calls Try.prog 29 #[.pointer (some ⟨tb, 0, none⟩)] w fun e w' => e = .returned (.int .i64 T.length) ∧ w = w' := by
  obtain ⟨L, h⟩ := h
  have c := h.hd.cell 3 _ rfl
  clear h
  generalize T.length = n at *
  go_enter Try.func29, Try.ntmps29
  go_wp2
  go_ret
  exact ⟨rfl, rfl⟩
def marksM (names : List ByteArray) (T : List Sh) (i : Int) : Int := if i < 0 ∨ (T.length : Int) ≤ i then 0 else (marksOf names (ksOf T i.toNat) : Nat)
theorem marks_calls (h : TreeAt w B tb deep fan names T) (i : Int) : Calls Try.prog 31 #[.pointer (some ⟨tb, 0, none⟩), .int .i64 i] w fun e w' => e = .returned (.int .u64 (marksM names T i)) ∧ w = w' := by
  obtain ⟨L, h⟩ := h
  unfold marksM
  by_cases hi : i < 0 ∨ (T.length : Int) ≤ i
  · rw [if_pos hi]
    have H := Lib.hid (at_miss h i hi)
    clear h hi
    go_enter Try.func31, Try.ntmps31
    go_wp2_with (go_at_call 103; refine H.out.mono ?_; rintro e w' ⟨rfl, rfl⟩)
    go_ret
    exact ⟨rfl, rfl⟩
  · rw [if_neg hi]
    obtain ⟨k, rfl⟩ : ∃ k : Nat, i = k := ⟨i.toNat, by omega⟩
    have hk : k < T.length := by omega
    rw [Int.toNat_natCast]
    have H := Lib.hid (at_hit h k hk)
    have c := (h.node k hk).cell 3 _ rfl
    clear h hi
    generalize ((marksOf names (ksOf T k) : Nat) : Int) = m at *
    go_enter Try.func31, Try.ntmps31
    go_wp2_with (go_at_call 103; refine H.out.mono ?_; rintro e w' ⟨rfl, rfl⟩)
    go_ret
    exact ⟨rfl, rfl⟩
def slotM (T : List Sh) (i : Int) (s : ByteArray) : Option Nat := if i < 0 ∨ (T.length : Int) ≤ i then none else slotOf (ksOf T i.toNat) s
theorem slot_calls (h : TreeAt w B tb deep fan names T) (i : Int) (s : ByteArray) (hs : s.size ≤ maxLen) : Calls Try.prog 34 #[.pointer (some ⟨tb, 0, none⟩), .int .i64 i, .string s] w fun e w' =>
    e = .returned (.tuple #[.int .i64 ((slotM T i s).getD 0 : Nat), .bool (slotM T i s).isSome]) ∧ w = w' := by
  obtain ⟨L, h⟩ := h
  unfold slotM
  by_cases hi : i < 0 ∨ (T.length : Int) ≤ i
  · rw [if_pos hi]
    have H := Lib.hid (at_miss h i hi)
    clear h hi
    go_enter Try.func34, Try.ntmps34
    go_wp2_with (go_at_call 103; refine H.out.mono ?_; rintro e w' ⟨rfl, rfl⟩)
    go_ret2
    exact ⟨rfl, rfl⟩
  · rw [if_neg hi]
    obtain ⟨k, rfl⟩ : ∃ k : Nat, i = k := ⟨i.toNat, by omega⟩
    have hk : k < T.length := by omega
    rw [Int.toNat_natCast]
    have H := Lib.hid (at_hit h k hk)
    have c := (h.node k hk).cell 1 _ rfl
    have lk := (h.slots k hk).look_ok law9 Try.underlying9 Try.underlying173 Try.underlying3 (zero3 w) s hs
    have e1 : ((slotF (ksOf T k) s).getD 0) = ((slotOf (ksOf T k) s).getD 0 : Nat) := mapD _
    have e2 : (slotF (ksOf T k) s).isSome = (slotOf (ksOf T k) s).isSome := mapS _
    rw [e1, e2] at lk
    clear h hi e1 e2
    generalize (slotOf (ksOf T k) s).getD 0 = m at *
    generalize (slotOf (ksOf T k) s).isSome = o at *
    go_enter Try.func34, Try.ntmps34
    go_wp2_with (go_at_call 103; refine H.out.mono ?_; rintro e w' ⟨rfl, rfl⟩)
    go_ret2
    exact ⟨rfl, rfl⟩
theorem slot_nil (i : Int) (s : ByteArray) (w : World) : Calls Try.prog 34 #[.pointer none, .int .i64 i, .string s] w fun e w' => e = .returned (.tuple #[.int .i64 0, .bool false]) ∧ w = w' := by
  go_enter Try.func34, Try.ntmps34
  go_wp2_with (go_at_call 103; refine (at_nil _ _).mono ?_; rintro e w' ⟨rfl, rfl⟩)
  go_ret2
  exact ⟨rfl, rfl⟩
def keysM (T : List Sh) (i : Int) : List ByteArray := if i < 0 ∨ (T.length : Int) ≤ i then [] else ksOf T i.toNat
/-- Rows of the call's own: what comes back holds the keys, in a block that is new, or nil. -/
def NewStrs (w w' : World) (v : Value) (ks : List ByteArray) : Prop := Strs w' v ks ∧ (∀ g, v.ownBlock = some g → w.heap.size ≤ g) ∧ Below w.heap.size w w'
theorem keys_calls (h : TreeAt w B tb deep fan names T) (i : Int) : Calls Try.prog 30 #[.pointer (some ⟨tb, 0, none⟩), .int .i64 i] w fun e w' => ∃ v, e = .returned v ∧ NewStrs w w' v (keysM T i) := by
  obtain ⟨L, h⟩ := h
  unfold keysM
  by_cases hi : i < 0 ∨ (T.length : Int) ≤ i
  · rw [if_pos hi]
    have H := Lib.hid (at_miss h i hi)
    clear h hi
    go_enter Try.func30, Try.ntmps30
    go_wp2_with (go_at_call 103; refine H.out.mono ?_; rintro e w' ⟨rfl, rfl⟩)
    go_ret
    exact ⟨_, rfl, World.ownsRow_nil _ _ _ _, fun g hg => by (cases hg), Below.refl _ _⟩
  · rw [if_neg hi]
    obtain ⟨k, rfl⟩ : ∃ k : Nat, i = k := ⟨i.toNat, by omega⟩
    have hk : k < T.length := by omega
    rw [Int.toNat_natCast]
    have H := Lib.hid (at_hit h k hk)
    have c := (h.node k hk).cell 0 _ rfl
    have hks := h.keys k hk
    have h64 : (ksOf T k).length ≤ 1000000 := by have h1 := h.wf.keys k hk; have h2 := h.wf.deep64; show (T.getD k ([], 0)).1.length ≤ _; omega
    clear h hi
    generalize ksOf T k = ks at *
    generalize hv0 : L.kv k = v0 at *
    rcases hks.2 with ⟨rfl, hn⟩ | ⟨g, cap, cur, rfl, hr⟩
    · obtain rfl : ks = [] := List.eq_nil_of_length_eq_zero hn
      have H0 := Lib.hid h64; clear hn hks h64 hv0
      go_enter Try.func30, Try.ntmps30
      go_wp2_with (first | (go_at_call 103; refine H.out.mono ?_; rintro e w' ⟨rfl, rfl⟩) | (go_at_call 104; refine (clone_nil _).mono ?_; rintro e w' ⟨rfl, rfl⟩))
      go_ret
      exact ⟨_, rfl, World.ownsRow_nil _ _ _ _, fun g hg => by (cases hg), Below.refl _ _⟩
    · have H1 := Lib.hid (clone_strs w g ks.length cap ks hks rfl h64)
      clear hks h64 hv0 hr
      go_enter Try.func30, Try.ntmps30
      go_wp2_with (first | (go_at_call 103; refine H.out.mono ?_; rintro e w' ⟨rfl, rfl⟩) | (go_at_call 104; refine H1.out.mono ?_; rintro e w' ⟨v, rfl, h1, h2, h3, h4⟩))
      go_ret
      exact ⟨v, rfl, h1, h2, h4⟩
theorem keys_nil (i : Int) (w : World) : Calls Try.prog 30 #[.pointer none, .int .i64 i] w fun e w' => e = .returned (.slice none 0 0) ∧ w = w' := by
  go_enter Try.func30, Try.ntmps30
  go_wp2_with (go_at_call 103; refine (at_nil _ _).mono ?_; rintro e w' ⟨rfl, rfl⟩)
  go_ret
  exact ⟨rfl, rfl⟩
theorem tree_grow {L : Lay} (h : TreeIn w B tb deep fan names T L) (k : Nat) (hk : k < T.length) (z : ByteArray) (hm : z ∉ ksOf T k) (hT' : WF deep (T ++ [(ksOf T k ++ [z], (k : Int))])) (hkid : kidFrom T 0 k z = none)
    (W : World) (yb sb cb g c : Nat) (va : Value) (hsz : w.heap.size ≤ W.heap.size)
    (hold : ∀ b, b < w.heap.size → b ≠ tb → b ≠ L.vb → b ≠ L.cb k → W.heap[b]? = w.heap[b]?)
    (hhd : Blk W tb 179 [.int .i64 deep, .int .i64 fan, .map (some L.mb), .slice (some ⟨g, 0, none⟩) (T.length + 1) c])
    (hrow : W.ownsRow 0 171 1 (.slice (some ⟨g, 0, none⟩) (T.length + 1) c) (T.length + 1) (((List.range T.length).map fun i => .pointer (some ⟨L.nb i, 0, none⟩)) ++ [.pointer (some ⟨yb, 0, none⟩)]))
    (hkids : MI Try.prog 9 3 .i64 W (L.cb k) (kidCount T k + 1) (fun s => if s = z then some (T.length : Int) else kidF T k s))
    (hy : Blk W yb 175 [va, .map (some sb), .map (some cb), .int .u64 (marksOf names (ksOf T k ++ [z]) : Nat)])
    (hs : MI Try.prog 9 3 .i64 W sb ((ksOf T k).length + 1) (fun s => if s = z then some ((ksOf T k).length : Int) else slotF (ksOf T k) s))
    (hc : MI Try.prog 9 3 .i64 W cb 0 (fun _ => none)) (hva : Strs W va (ksOf T k ++ [z])) (hcs : cb ≠ sb)
    (f1 : w.heap.size ≤ yb) (f2 : w.heap.size ≤ sb) (f3 : w.heap.size ≤ cb) (f4 : ∀ q, va.ownBlock = some q → w.heap.size ≤ q) (f5 : g = L.vb ∨ w.heap.size ≤ g) :
    TreeAt W (fun b => B b ∨ w.heap.size ≤ b ∧ b < W.heap.size) tb deep fan names (T ++ [(ksOf T k ++ [z], (k : Int))]) := by
  have hlen : (T ++ [(ksOf T k ++ [z], (k : Int))]).length = T.length + 1 := by simp
  have hold' : ∀ i, i < T.length → W.heap[L.nb i]? = w.heap[L.nb i]? := fun i hi => hold _ (h.node i hi).lt (fun e => (h.hd.ne (h.node i hi) (by decide)) e.symm) (by
    obtain ⟨g0, c0, cur, q1, _, q3⟩ : ∃ g0 c0 cur, L.vb = g0 ∧ c0 = c0 ∧ w.heap[g0]? = some (.cells cur 171 (0, 0)) := by
      rcases h.row.2 with ⟨q, _⟩ | ⟨g0, c0, cur, q, _, q3, _⟩
      · cases q
      · cases q; exact ⟨_, 0, cur, rfl, rfl, q3⟩
    intro e
    have := h.node i hi
    rw [e, q1] at this
    have := (show w.heap[g0]? = _ from this).symm.trans q3
    simp at this) ((h.kids k hk).blk_ne (h.node i hi))
  have vbne : ∀ {b n f}, MI Try.prog 9 3 .i64 w b n f → b ≠ L.vb := by
    intro b n f hb e
    obtain ⟨es, n, ho⟩ := hb.obj
    rcases h.row.2 with ⟨q, _⟩ | ⟨g0, c0, cur, q, _, q3, _⟩
    · cases q
    · cases q; rw [e, q3] at ho; cases ho
  have holdS : ∀ i, i < T.length → W.heap[L.sb i]? = w.heap[L.sb i]? := fun i hi => hold _ (h.slots i hi).lt (fun e => (h.slots i hi).blk_ne h.hd e.symm) (vbne (h.slots i hi)) (fun e => h.cs k i hk hi e.symm)
  have holdC : ∀ i, i < T.length → i ≠ k → W.heap[L.cb i]? = w.heap[L.cb i]? := fun i hi hne => hold _ (h.kids i hi).lt (fun e => (h.kids i hi).blk_ne h.hd e.symm) (vbne (h.kids i hi)) (fun e => hne (h.inj _ _ hi hk e))
  obtain ⟨nm, hmb⟩ := h.mrk
  have vbm : L.mb ≠ L.vb := by
    intro e
    obtain ⟨es, n, ho⟩ := hmb.obj
    rcases h.row.2 with ⟨q, _⟩ | ⟨g0, c0, cur, q, _, q3, _⟩
    · cases q
    · cases q; rw [e, q3] at ho; cases ho
  have ltc : ∀ i, i < T.length → L.cb i < w.heap.size := fun i hi => (h.kids i hi).lt
  have lts : ∀ i, i < T.length → L.sb i < w.heap.size := fun i hi => (h.slots i hi).lt
  refine ⟨{ mb := L.mb, vb := g, cap := c, nb := fun i => if i = T.length then yb else L.nb i, kv := fun i => if i = T.length then va else L.kv i, sb := fun i => if i = T.length then sb else L.sb i, cb := fun i => if i = T.length then cb else L.cb i }, ?_⟩
  exact {
    hd := by rw [hlen]; exact hhd
    mrk := ⟨nm, hmb.of (hold _ hmb.lt (fun e => hmb.blk_ne h.hd e.symm) vbm (fun e => h.cm k hk e.symm))⟩
    row := by
      rw [hlen, List.range_succ, List.map_append]
      have e : (List.range T.length).map (fun i => Value.pointer (some ⟨if i = T.length then yb else L.nb i, 0, none⟩)) = (List.range T.length).map fun i => Value.pointer (some ⟨L.nb i, 0, none⟩) := by
        apply List.map_congr_left
        intro i hi
        rw [if_neg (by have := List.mem_range.1 hi; omega)]
      rw [e]
      simpa using hrow
    node := fun i hi => by
      rw [hlen] at hi
      by_cases e : i = T.length
      · subst e
        simp only [if_true]
        rw [show ksOf (T ++ [(ksOf T k ++ [z], (k : Int))]) T.length = ksOf T k ++ [z] by unfold ksOf; rw [getD_snoc]]
        exact hy
      · have hi' : i < T.length := by omega
        simp only [if_neg e]
        rw [show ksOf (T ++ [(ksOf T k ++ [z], (k : Int))]) i = ksOf T i by unfold ksOf; rw [getD_append_left hi']]
        exact (h.node i hi').of (hold' i hi')
    keys := fun i hi => by
      rw [hlen] at hi
      by_cases e : i = T.length
      · subst e
        simp only [if_true]
        rw [show ksOf (T ++ [(ksOf T k ++ [z], (k : Int))]) T.length = ksOf T k ++ [z] by unfold ksOf; rw [getD_snoc]]
        exact hva
      · have hi' : i < T.length := by omega
        simp only [if_neg e]
        rw [show ksOf (T ++ [(ksOf T k ++ [z], (k : Int))]) i = ksOf T i by unfold ksOf; rw [getD_append_left hi']]
        refine ownsRow_of (h.keys i hi') fun q hq => ?_
        obtain ⟨cur, hcur⟩ : ∃ cur, w.heap[q]? = some (.cells cur 9 (0, 0)) := by
          rcases (h.keys i hi').2 with ⟨q1, _⟩ | ⟨g0, c0, cur, q1, _, q3, _⟩
          · rw [q1] at hq; cases hq
          · rw [q1] at hq; cases hq; exact ⟨cur, q3⟩
        refine hold _ ((h.keys i hi').lt q hq).2 ?_ ?_ ?_
        · rintro rfl; have := (show w.heap[q]? = _ from h.hd).symm.trans hcur; simp at this
        · rintro rfl
          rcases h.row.2 with ⟨q1, _⟩ | ⟨g0, c0, cur', q1, _, q3, _⟩
          · cases q1
          · cases q1; rw [hcur] at q3; simp at q3
        · rintro rfl; obtain ⟨es, n, ho⟩ := (h.kids k hk).obj; rw [hcur] at ho; cases ho
    slots := fun i hi => by
      rw [hlen] at hi
      by_cases e : i = T.length
      · subst e
        simp only [if_true]
        rw [show ksOf (T ++ [(ksOf T k ++ [z], (k : Int))]) T.length = ksOf T k ++ [z] by unfold ksOf; rw [getD_snoc]]
        rw [List.length_append, List.length_singleton]
        refine hs.congr fun s _ => ?_
        unfold slotF
        rw [slotOf_snoc _ _ _ hm]
        split <;> rfl
      · have hi' : i < T.length := by omega
        simp only [if_neg e]
        rw [show ksOf (T ++ [(ksOf T k ++ [z], (k : Int))]) i = ksOf T i by unfold ksOf; rw [getD_append_left hi']]
        exact (h.slots i hi').of (holdS i hi')
    kids := fun i hi => by
      rw [hlen] at hi
      by_cases e : i = T.length
      · subst e
        simp only [if_true]
        have hn : ∀ x ∈ T ++ [(ksOf T k ++ [z], (k : Int))], x.2 ≠ ((T.length : Nat) : Int) := by
          intro x hx
          rcases List.mem_append.1 hx with hx | hx
          · have := h.wf.par_lt x hx; omega
          · simp at hx; subst hx; dsimp only; omega
        rw [kidCount_none hn]
        refine hc.congr fun s _ => ?_
        unfold kidF
        rw [kidFrom_none_of hn]; rfl
      · have hi' : i < T.length := by omega
        simp only [if_neg e]
        rw [kidCount_append]
        by_cases e2 : i = k
        · subst e2
          have e3 : kidCount [(ksOf T i ++ [z], (i : Int))] i = 1 := by simp [kidCount]
          rw [e3]
          refine hkids.congr fun s _ => ?_
          unfold kidF
          rw [kidFrom_append]
          by_cases es : s = z
          · subst es
            rw [if_pos rfl, hkid]
            simp [kidFrom]
          · rw [if_neg es]
            cases kidFrom T 0 i s with
            | some j => rfl
            | none => simp [kidFrom, Ne.symm es]
        · have e3 : kidCount [(ksOf T k ++ [z], (k : Int))] i = 0 := by
            refine kidCount_none fun x hx => ?_
            simp at hx; subst hx; dsimp only; omega
          rw [e3]
          refine ((h.kids i hi').of (holdC i hi' e2)).congr fun s _ => ?_
          unfold kidF
          rw [kidFrom_append]
          cases kidFrom T 0 i s with
          | some j => rfl
          | none =>
            dsimp only
            rw [kidFrom_none_of]
            intro x hx
            simp at hx; subst hx; dsimp only; omega
    inj := fun i j hi hj e => by
      rw [hlen] at hi hj
      dsimp only at e
      by_cases ei : i = T.length <;> by_cases ej : j = T.length
      · omega
      · rw [if_pos ei, if_neg ej] at e; have := ltc j (by omega); omega
      · rw [if_neg ei, if_pos ej] at e; have := ltc i (by omega); omega
      · rw [if_neg ei, if_neg ej] at e; exact h.inj i j (by omega) (by omega) e
    cs := fun i j hi hj => by
      rw [hlen] at hi hj
      dsimp only
      by_cases ei : i = T.length <;> by_cases ej : j = T.length
      · rw [if_pos ei, if_pos ej]; exact hcs
      · rw [if_pos ei, if_neg ej]; have := lts j (by omega); omega
      · rw [if_neg ei, if_pos ej]; have := ltc i (by omega); omega
      · rw [if_neg ei, if_neg ej]; exact h.cs i j (by omega) (by omega)
    cm := fun i hi => by
      rw [hlen] at hi
      dsimp only
      by_cases ei : i = T.length
      · rw [if_pos ei]; have := hmb.lt; omega
      · rw [if_neg ei]; exact h.cm i (by omega)
    wf := hT'
    fan0 := h.fan0
    fan64 := h.fan64
    nm := h.nm
    ownT := .inl h.ownT
    ownM := .inl h.ownM
    ownV := by
      rcases f5 with f5 | f5
      · subst f5; exact .inl h.ownV
      · exact .inr ⟨f5, (hrow.lt g rfl).2⟩
    ownN := fun i hi => by
      rw [hlen] at hi
      dsimp only
      by_cases ei : i = T.length
      · simp only [if_pos ei]
        exact ⟨.inr ⟨f1, hy.lt⟩, .inr ⟨f2, hs.lt⟩, .inr ⟨f3, hc.lt⟩, fun q hq => .inr ⟨f4 q hq, (hva.lt q hq).2⟩⟩
      · simp only [if_neg ei]
        obtain ⟨o1, o2, o3, o4⟩ := h.ownN i (by omega)
        exact ⟨.inl o1, .inl o2, .inl o3, fun q hq => .inl (o4 q hq)⟩
    lt := fun b hb => by
      rcases hb with hb | hb
      · exact Nat.lt_of_lt_of_le (h.lt b hb) hsz
      · exact hb.2 }
end
end Go.Proofs.Ytmjfmfelbmbniaa

/- A region that draws its order and whose operations only make memory: what each operation leaves is said once, whatever the order. Plain lemmas over any program. -/
namespace Go.Proofs.Ytmjfmfelbmbniaa.RG
set_option linter.unusedVariables false
set_option linter.unusedSimpArgs false
/-- The frame with some slots written anew. -/
def fill (a : Act) (D : List Nat) (vals : Nat → Value) : Act := D.foldl (fun a d => a.put (some d) (vals d)) a
theorem put_put (a : Act) (d : Nat) (u v : Value) : (a.put (some d) u).put (some d) v = a.put (some d) v := by
  simp [Act.put, Array.setIfInBounds_setIfInBounds]
theorem put_comm' (a : Act) {d e : Nat} (u v : Value) (h : d ≠ e) : (a.put (some d) u).put (some e) v = (a.put (some e) v).put (some d) u :=
  Act.put_comm a u v (fun x hx => by cases hx; intro he; cases he; exact h rfl)
theorem fill_congr (a : Act) (D : List Nat) (f g : Nat → Value) (h : ∀ d ∈ D, f d = g d) : fill a D f = fill a D g := by
  induction D generalizing a with
  | nil => rfl
  | cons x r ih => simp only [fill, List.foldl_cons]; rw [h x (by simp)]; exact ih _ (fun d hd => h d (by simp [hd]))
theorem fill_put_notin (a : Act) (D : List Nat) (f : Nat → Value) (d : Nat) (v : Value) (h : d ∉ D) : (fill a D f).put (some d) v = fill (a.put (some d) v) D f := by
  induction D generalizing a with
  | nil => rfl
  | cons x r ih =>
    simp only [fill, List.foldl_cons]
    have := ih (a.put (some x) (f x)) (fun hd => h (by simp [hd]))
    simp only [fill] at this
    rw [this, put_comm' _ _ _ (fun e => h (by simp [e]))]
theorem fill_put (a : Act) (D : List Nat) (hD : D.Nodup) (f : Nat → Value) (d : Nat) (v : Value) (h : d ∈ D) : (fill a D f).put (some d) v = fill a D (fun x => if x = d then v else f x) := by
  induction D generalizing a with
  | nil => cases h
  | cons x r ih =>
    have hn := List.nodup_cons.1 hD
    simp only [fill, List.foldl_cons]
    by_cases e : x = d
    · subst e
      have := fill_put_notin (a.put (some x) (f x)) r f x v hn.1
      simp only [fill] at this
      rw [this, put_put, if_pos rfl]
      exact fill_congr _ r _ _ (fun y hy => by rw [if_neg]; rintro rfl; exact hn.1 hy)
    · have := ih (a.put (some x) (f x)) hn.2 (by rcases List.mem_cons.1 h with h | h; exact absurd h.symm e; exact h)
      simp only [fill] at this
      rw [this, if_neg e]
theorem fill_self (a : Act) (D : List Nat) : fill a D (fun d => a.tmps.getD d undef) = a := by
  suffices H : ∀ (D : List Nat) (b : Act), b = a → fill b D (fun d => a.tmps.getD d undef) = a from H D a rfl
  intro D
  induction D with
  | nil => intro b h; exact h
  | cons x r ih =>
    rintro b rfl
    simp only [fill, List.foldl_cons]
    have e : b.put (some x) (b.tmps.getD x undef) = b := by
      obtain ⟨t, d⟩ := b
      simp only [Act.put, Act.mk.injEq, and_true]
      apply Array.ext
      · simp
      · intro i h1 h2
        rw [Array.getElem_setIfInBounds]
        split
        · rename_i e; subst e; simp [Array.getD, h2]
        · rfl
    rw [e]
    exact ih b rfl
def left (l : Array Bool) : Nat := (l.toList.filter (!·)).length
theorem left_set {l : Array Bool} {i : Nat} (h : l.getD i true = false) : left (l.setIfInBounds i true) + 1 = left l := by
  have hi : i < l.size := by
    rcases Nat.lt_or_ge i l.size with h' | h'
    · exact h'
    · simp [Array.getD, Nat.not_lt.2 h'] at h
  have hv : l[i] = false := by simpa [Array.getD, hi] using h
  obtain ⟨l⟩ := l
  simp only [left]
  rw [show (Array.setIfInBounds ⟨l⟩ i true).toList = l.set i true by simp]
  have hi' : i < l.length := by simpa using hi
  have hv' : l[i] = false := by simpa using hv
  clear hi h hv
  induction l generalizing i with
  | nil => simp at hi'
  | cons x r ih =>
    cases i with
    | zero => simp at hv'; subst hv'; simp
    | succ i =>
      have := ih (i := i) (by simpa using hi') (by simpa using hv')
      simp only [List.set_cons_succ, List.filter_cons]
      cases x <;> simp_all
theorem left_zero {l : Array Bool} (h : left l = 0) (i : Nat) : l.getD i true = true := by
  simp only [left, List.length_eq_zero_iff, List.filter_eq_nil_iff] at h
  rcases Nat.lt_or_ge i l.size with h' | h'
  · have := h l[i] (by simp [Array.mem_toList_iff])
    simpa [Array.getD, h'] using this
  · simp [Array.getD, Nat.not_lt.2 h']
section
variable {P : Program} {md : Region.Mode} {ops : Array Oper} {Q : Exit → Act → World → Prop} {S : World → Prop}
theorem wpOp_plain {i : Nat} {o : Oper} {K : Act → World → Prop} {a : Act} {w : World} (ho : ops[i]? = some o) (hg : o.guard = none) (h : ∀ K' : Act → World → Prop, (∀ a w, K a w → K' a w) → o.wp P a w K' Q) : wpOp P ops Q i K a w := by
  unfold wpOp
  rw [ho]
  simp only [Region.wanted, hg, if_true]
  exact .inl (h K fun _ _ h => h)
theorem one {i : Nat} {fuel : Nat} {listed : Array Bool} {a : Act} {w : World} (hr : Region.ready md ops listed = [i]) (h : wpOp P ops Q i (fun a' w' => S w' ∧ wpAnyH P md ops Q S fuel (listed.setIfInBounds i true) a' w') a w) : wpAnyH P md ops Q S (fuel + 1) listed a w :=
  wpAnyH_all hr (by simp) (fun j hj => by simp at hj; subst hj; exact h)
theorem wp_append_run {o : Oper} {a : Act} {w w' : World} {K : Act → World → Prop} {v v2 v' : Value} (s x : Operand) (t tx : TypeId) (ho : o.op = .call { callee := .builtin .append, args := #[s, x], argTypes := #[t, tx] }) (hs : a.eval s = v) (hx : a.eval x = v2)
    (hr : (Builtin.append_ #[t, tx] o.type #[v, v2]).run P w = .ok v' w') (h : K (a.put o.dst v') w') : o.wp P a w K Q := by
  unfold Oper.wp execOp
  simp only [ho, resolve, invoke, builtin, Sem.run_bind, Sem.run_pure, Result.andThen_ok, List.map_toArray, List.map_cons, List.map_nil, hs, hx, hr]
  exact h
theorem wpList_append_run {o : Oper} {rest : List Oper} {a : Act} {w w' : World} {v v2 v' : Value} (hg : o.guard = none) (s x : Operand) (t tx : TypeId) (ho : o.op = .call { callee := .builtin .append, args := #[s, x], argTypes := #[t, tx] }) (hs : a.eval s = v) (hx : a.eval x = v2)
    (hr : (Builtin.append_ #[t, tx] o.type #[v, v2]).run P w = .ok v' w') (h : wpList P ops Q rest (a.put o.dst v') w') : wpList P ops Q (o :: rest) a w :=
  wpList_plain hg fun _ hK => wp_append_run s x t tx ho hs hx hr (hK _ _ h)
/-- If an operation has not come up, one of those that may come up now has not. -/
theorem ready_some (hord : ∀ (j : Nat) (o : Oper), ops[j]? = some o → ∀ e ∈ o.after, Region.binds md e = true → e.on < j) {listed : Array Bool} (hsz : listed.size = ops.size) (h : Region.ready md ops listed = []) : ∀ j : Nat, listed.getD j true = true := by
  intro j
  induction j using Nat.strongRecOn with
  | _ j ih =>
    cases hl : listed.getD j true with
    | true => rfl
    | false =>
      exfalso
      have hj : j < listed.size := by
        rcases Nat.lt_or_ge j listed.size with h' | h'
        · exact h'
        · simp [Array.getD, Nat.not_lt.2 h'] at hl
      have ho : ops[j]? = some ops[j] := by simp [hsz ▸ hj]
      have : j ∈ Region.ready md ops listed := mem_ready.2 ⟨hl, _, ho, fun e he hb => by
        have h1 := hord j _ ho e he hb
        have h2 := ih e.on h1
        have h3 : e.on < listed.size := by omega
        simpa [Array.getD, h3] using h2⟩
      rw [h] at this
      cases this
theorem getD_form (a : Act) (t : Nat) : a.tmps.getD t undef = a.tmps[t]?.getD undef := by simp [Array.getD_eq_getD_getElem?]
def upd (done : Nat → Bool) (j : Nat) : Nat → Bool := fun i => if i = j then true else done i
theorem getD_set_true' {l : Array Bool} {i j : Nat} (h : l.getD j true = true) : (l.setIfInBounds i true).getD j true = true := by
  by_cases e : j = i
  · subst e
    rcases Nat.lt_or_ge j l.size with h' | h'
    · simp [Array.getD, h']
    · simp [Array.getD, Nat.not_lt.2 h']
  · rw [getD_set_ne true (Ne.symm e)]; exact h
/-- The closed facts that 'grow' asks of a region, as one truth. -/
def fits (md : Region.Mode) (ops : Array Oper) (listed0 : Array Bool) (js D : List Nat) (dst : Nat → Nat) (deps : Nat → List Nat) : Bool :=
  listed0.size == ops.size && D.Nodup && (js.map dst).Nodup && js.all (fun j => D.contains (dst j) && decide (j < ops.size)) &&
  (List.range ops.size).all (fun j => listed0.getD j true == !js.contains j) &&
  (List.range ops.size).all (fun j => match ops[j]? with
    | none => false
    | some o => o.after.all (fun e => !Region.binds md e || decide (e.on < j)) && (deps j).all fun i => js.contains i && o.after.any fun e => Region.binds md e && e.on == i)
theorem nodup_inj {js : List Nat} {dst : Nat → Nat} (h : (js.map dst).Nodup) : ∀ i ∈ js, ∀ j ∈ js, dst i = dst j → i = j := by
  induction js with
  | nil => intro i hi; cases hi
  | cons x r ih =>
    rw [List.map_cons] at h
    have hn := List.nodup_cons.1 h
    intro i hi j hj e
    rcases List.mem_cons.1 hi with hi | hi
    · rcases List.mem_cons.1 hj with hj | hj
      · rw [hi, hj]
      · exact absurd (List.mem_map.2 ⟨j, hj, by rw [← e, hi]⟩) hn.1
    · rcases List.mem_cons.1 hj with hj | hj
      · exact absurd (List.mem_map.2 ⟨i, hi, by rw [e, hj]⟩) hn.1
      · exact ih hn.2 i hi j hj e
theorem getD_put (a : Act) (d t : Nat) (v : Value) : (a.put (some d) v).tmps.getD t undef = if t = d ∧ t < a.tmps.size then v else a.tmps.getD t undef := by
  simp only [Act.put, Array.getD_eq_getD_getElem?, Array.getElem?_setIfInBounds]
  by_cases e : d = t
  · subst e
    by_cases h : d < a.tmps.size <;> simp [h]
  · simp [e, Ne.symm e]
theorem getD_fill_out (a : Act) (D : List Nat) (vals : Nat → Value) (t : Nat) (h : t ∉ D) : (fill a D vals).tmps.getD t undef = a.tmps.getD t undef := by
  induction D generalizing a with
  | nil => rfl
  | cons x r ih =>
    have := ih (a.put (some x) (vals x)) (fun hd => h (by simp [hd]))
    simp only [fill, List.foldl_cons] at this ⊢
    rw [this, getD_put, if_neg (fun e => h (by simp [e.1]))]
theorem getD_fill_in (a : Act) (D : List Nat) (hD : D.Nodup) (vals : Nat → Value) (t : Nat) (h : t ∈ D) (hs : t < a.tmps.size) : (fill a D vals).tmps.getD t undef = vals t := by
  induction D generalizing a with
  | nil => cases h
  | cons x r ih =>
    have hn := List.nodup_cons.1 hD
    by_cases e : t ∈ r
    · have := ih (a.put (some x) (vals x)) hn.2 e (by simpa [Act.put] using hs)
      simp only [fill, List.foldl_cons] at this ⊢
      exact this
    · have hx : t = x := by rcases List.mem_cons.1 h with h | h; exact h; exact absurd h e
      have := getD_fill_out (a.put (some x) (vals x)) r vals t e
      simp only [fill, List.foldl_cons] at this ⊢
      rw [this, getD_put, if_pos ⟨hx, hs⟩, hx]
/-- The frame while the rest of the region runs: but for the slots of D it is as it was. -/
structure Frm (a0 : Act) (D : List Nat) (a : Act) : Prop where
  out : ∀ t, t ∉ D → a.tmps.getD t undef = a0.tmps.getD t undef
/-- What is known while the rest of a region runs: of each operation that has run, what it left, and between which sizes of the heap it ran. -/
structure Inv (js : List Nat) (dst : Nat → Nat) (deps : Nat → List Nat) (Φ : (Nat → Bool) → Nat → Nat → Nat → Value → World → Prop) (N : Nat) (done : Nat → Bool) (lo hi : Nat → Nat) (a : Act) (w : World) : Prop where
  at_ : ∀ j ∈ js, done j = true → N ≤ lo j ∧ lo j ≤ hi j ∧ hi j ≤ w.heap.size ∧ Φ done j (lo j) (hi j) (a.tmps.getD (dst j) undef) w
  apart : ∀ i ∈ js, ∀ j ∈ js, done i = true → done j = true → i ≠ j → hi i ≤ lo j ∨ hi j ≤ lo i
  dep : ∀ i ∈ js, done i = true → ∀ k ∈ deps i, done k = true
/-- The rest of a region, in whatever order. -/
theorem grow (js D : List Nat) (dst : Nat → Nat) (deps : Nat → List Nat) (a0 : Act) (listed0 : Array Bool) (hfit : fits md ops listed0 js D dst deps = true) (hDs : D.all (fun d => decide (d < a0.tmps.size)) = true)
    (Φ : (Nat → Bool) → Nat → Nat → Nat → Value → World → Prop) (w0 : World) (hS0 : S w0)
    (step : ∀ j ∈ js, ∀ (done : Nat → Bool) (lo hi : Nat → Nat) (a : Act) (w : World), Frm a0 D a → S w → w0.heap.size ≤ w.heap.size → done j = false → (∀ i ∈ deps j, done i = true) → Inv js dst deps Φ w0.heap.size done lo hi a w →
      wpOp P ops Q j (fun a' w' => S w' ∧ w.heap.size ≤ w'.heap.size ∧ ∃ v, a' = a.put (some (dst j)) v ∧ (∀ i ∈ js, done i = true → Φ (upd done j) i (lo i) (hi i) (a.tmps.getD (dst i) undef) w') ∧ Φ (upd done j) j w.heap.size w'.heap.size v w') a w)
    (fin : ∀ (vals : Nat → Value) (w : World) (lo hi : Nat → Nat), S w → (∀ j ∈ js, w0.heap.size ≤ lo j ∧ lo j ≤ hi j ∧ hi j ≤ w.heap.size ∧ Φ (fun _ => true) j (lo j) (hi j) (vals (dst j)) w) →
      (∀ i ∈ js, ∀ j ∈ js, i ≠ j → hi i ≤ lo j ∨ hi j ≤ lo i) → Q .normal (fill a0 D vals) w)
    (fuel : Nat) (hf : left listed0 ≤ fuel) : wpAnyH P md ops Q S fuel listed0 a0 w0 := by
  simp only [fits, Bool.and_eq_true, List.all_eq_true, List.mem_range, beq_iff_eq, decide_eq_true_eq] at hfit
  obtain ⟨⟨⟨⟨⟨hsz, hD⟩, hmap⟩, hdD⟩, hlj⟩, hop⟩ := hfit
  have hdD' : ∀ j ∈ js, dst j ∈ D ∧ j < ops.size := fun j hj => by simpa using hdD j hj
  have hDs' : ∀ d ∈ D, d < a0.tmps.size := fun d hd => by simpa using List.all_eq_true.1 hDs d hd
  have hord : ∀ (j : Nat) (o : Oper), ops[j]? = some o → ∀ e ∈ o.after, Region.binds md e = true → e.on < j := by
    intro j o ho e he hb
    have := hop j (Array.getElem?_eq_some_iff.1 ho).1
    rw [ho] at this
    simp only [Bool.and_eq_true] at this
    have h1 := Array.all_eq_true_iff_forall_mem.1 this.1 e he
    simpa [hb] using h1
  have mem : ∀ j, listed0.getD j true = false ↔ j ∈ js := by
    intro j
    rcases Nat.lt_or_ge j ops.size with h' | h'
    · rw [hlj j h']; simp
    · have h1 : listed0.getD j true = true := by simp [Array.getD, hsz, Nat.not_lt.2 h']
      constructor
      · intro h; rw [h1] at h; cases h
      · intro h
        have := (hdD' j h).2
        omega
  have fin' : ∀ (vals : Nat → Value) (w : World) (lo hi : Nat → Nat), S w → Inv js dst deps Φ w0.heap.size (fun _ => true) lo hi (fill a0 D vals) w → Q .normal (fill a0 D vals) w := fun vals w lo hi hSw hI =>
    fin vals w lo hi hSw (fun j hj => (by have h1 := hI.at_ j hj rfl; rwa [getD_fill_in a0 D hD _ _ (hdD' j hj).1 (hDs' _ (hdD' j hj).1)] at h1)) (fun i hi0 j hj0 hne => hI.apart i hi0 j hj0 rfl rfl hne)
  suffices H : ∀ (fuel : Nat) (listed : Array Bool) (vals : Nat → Value) (w : World) (lo hi : Nat → Nat), listed.size = ops.size → left listed ≤ fuel → S w → w0.heap.size ≤ w.heap.size → (∀ j, listed0.getD j true = true → listed.getD j true = true) →
      Inv js dst deps Φ w0.heap.size (fun j => listed.getD j true) lo hi (fill a0 D vals) w → wpAnyH P md ops Q S fuel listed (fill a0 D vals) w by
    have := H fuel listed0 (fun d => a0.tmps.getD d undef) w0 (fun _ => 0) (fun _ => 0) hsz hf hS0 (Nat.le_refl _) (fun _ h => h) ⟨fun j h1 h2 => (by have h4 := (mem j).2 h1; have h5 : listed0.getD j true = true := h2; rw [h4] at h5; cases h5), fun i h1 j h2 h3 => (by have h4 := (mem i).2 h1; have h5 : listed0.getD i true = true := h3; rw [h4] at h5; cases h5), fun i h1 h2 => (by have h4 := (mem i).2 h1; have h5 : listed0.getD i true = true := h2; rw [h4] at h5; cases h5)⟩
    rwa [fill_self] at this
  intro fuel
  induction fuel with
  | zero =>
    intro listed vals w lo hi hs hl hSw hRw hmono hI
    have hall := left_zero (Nat.le_zero.1 hl)
    refine ⟨List.eq_nil_iff_forall_not_mem.2 fun j hj => ?_, fin' vals w lo hi hSw ?_⟩
    · have := (mem_ready.1 hj).1
      rw [hall j] at this; cases this
    · rw [show (fun j => listed.getD j true) = fun _ => true from funext hall] at hI; exact hI
  | succ fuel ih =>
    intro listed vals w lo hi hs hl hSw hRw hmono hI
    refine ⟨fun hnil => ?_, fun i hi0 => ?_⟩
    · have hall := ready_some hord hs hnil
      rw [show (fun j => listed.getD j true) = fun _ => true from funext hall] at hI
      exact fin' vals w lo hi hSw hI
    · obtain ⟨hun, o, ho, hall⟩ := mem_ready.1 hi0
      have hun0 : i ∈ js := by
        refine (mem i).1 ?_
        cases e : listed0.getD i true with
        | false => rfl
        | true => rw [hmono i e] at hun; cases hun
      have hisz : i < listed.size := by
        rcases Nat.lt_or_ge i listed.size with h' | h'
        · exact h'
        · simp [Array.getD, Nat.not_lt.2 h'] at hun
      have hdeps : ∀ k ∈ deps i, listed.getD k true = true := by
        intro k hk
        have h1 := hop i (Array.getElem?_eq_some_iff.1 ho).1
        rw [ho] at h1
        simp only [Bool.and_eq_true, List.all_eq_true] at h1
        have h2 := (h1.2 k hk).2
        rw [← Array.any_toList, List.any_eq_true] at h2
        obtain ⟨e, he, h5⟩ := h2
        simp only [Bool.and_eq_true, beq_iff_eq] at h5
        have h6 := hall e (by simpa using he) h5.1
        have h7 := hord i o ho e (by simpa using he) h5.1
        rw [← h5.2]
        have hlt : e.on < listed.size := by omega
        simpa [Array.getD, hlt] using h6
      refine wpOp_mono ?_ (step i hun0 _ lo hi _ w ⟨fun t ht => getD_fill_out a0 D vals t ht⟩ hSw hRw hun hdeps hI)
      rintro a' w' ⟨hSw', hsz', v, rfl, hv1, hv2⟩
      refine ⟨hSw', ?_⟩
      rw [fill_put a0 D hD vals (dst i) v (hdD' i hun0).1]
      have hgi : (listed.setIfInBounds i true).getD i true = true := by simp [Array.getD, hisz]
      have hgo : ∀ j, j ≠ i → (listed.setIfInBounds i true).getD j true = listed.getD j true := fun j hj => getD_set_ne true (Ne.symm hj)
      have hup : (fun j => (listed.setIfInBounds i true).getD j true) = upd (fun j => listed.getD j true) i := by
        funext j
        unfold upd
        by_cases e : j = i
        · subst e; rw [if_pos rfl]; exact hgi
        · rw [if_neg e]; exact hgo j e
      refine ih _ _ w' (fun j => if j = i then w.heap.size else lo j) (fun j => if j = i then w'.heap.size else hi j) (by simpa using hs) ?_ hSw' (Nat.le_trans hRw hsz') ?_ ⟨?_, ?_, ?_⟩
      · have := left_set hun; omega
      · intro j hj
        by_cases e : j = i
        · subst e; exact hgi
        · rw [hgo j e]; exact hmono j hj
      · intro j hj0 hj
        rw [hup]
        rw [getD_fill_in a0 D hD _ _ (hdD' j hj0).1 (hDs' _ (hdD' j hj0).1)]
        by_cases e : j = i
        · subst e
          simp only [if_true]
          exact ⟨hRw, hsz', Nat.le_refl _, hv2⟩
        · rw [hgo j e] at hj
          simp only [if_neg e]
          obtain ⟨q1, q2, q3, q4⟩ := hI.at_ j hj0 hj
          rw [if_neg (fun e' => e (nodup_inj hmap _ hj0 _ hun0 e'))]
          have := hv1 j hj0 hj
          rw [getD_fill_in a0 D hD _ _ (hdD' j hj0).1 (hDs' _ (hdD' j hj0).1)] at this
          exact ⟨q1, q2, Nat.le_trans q3 hsz', this⟩
      · intro x hx0 y hy0 hx hy hne
        by_cases ex : x = i
        · subst ex
          have ey : y ≠ x := fun e => hne e.symm
          simp only [if_true, if_neg ey]
          rw [hgo y ey] at hy
          exact .inr (hI.at_ y hy0 hy).2.2.1
        · by_cases ey : y = i
          · subst ey
            simp only [if_true, if_neg ex]
            rw [hgo x ex] at hx
            exact .inl (hI.at_ x hx0 hx).2.2.1
          · simp only [if_neg ex, if_neg ey]
            rw [hgo x ex] at hx; rw [hgo y ey] at hy
            exact hI.apart x hx0 y hy0 hx hy hne
      · intro x hx0 hx k hk
        by_cases ex : x = i
        · subst ex
          exact getD_set_true' (hdeps k hk)
        · rw [hgo x ex] at hx
          exact getD_set_true' (hI.dep x hx0 hx k hk)
end
end Go.Proofs.Ytmjfmfelbmbniaa.RG

/- Layer 12: a key added to a shape. -/
namespace Go.Proofs.Ytmjfmfelbmbniaa
open Go.RowKit Go.Maps HK ShM
set_option linter.unusedVariables false
set_option linter.unusedSimpArgs false
theorem run_len_row {P : Program} {w0 w : World} {e : TypeId} {size n : Nat} {v : Value} {xs : List Value} {t ty base : Nat} (ht : P.underlying t = some (.slice e)) (h : w0.ownsRow base e size v n xs) : (Builtin.len_ #[t] ty #[v]).run P w = .ok (.int .i64 n) w := by
  rcases h.2 with ⟨rfl, rfl⟩ | ⟨g, cap, cur, rfl, _⟩ <;> simp [Builtin.len_, run_underlying ht, Builtin.lenOf, goInt]
section
variable {w : World} {B : Nat → Prop} {tb : Nat} {deep fan : Int} {names : List ByteArray} {T : List Sh}
/-- What the call adds, in memory. -/
structure Grown1 (w w' : World) (B : Nat → Prop) (tb : Nat) (deep fan : Int) (names : List ByteArray) (T' : List Sh) : Prop where
  ex : ∃ B', TreeAt w' B' tb deep fan names T' ∧ Chg B w w' ∧ ∀ b, B' b → B b ∨ w.heap.size ≤ b
theorem Grown1.same (h : TreeAt w B tb deep fan names T) : Grown1 w w B tb deep fan names T := ⟨B, h, Chg.refl _ _, fun b hb => .inl hb⟩
theorem Grown1.draws {T' : List Sh} (h : Grown1 w w B tb deep fan names T') (n : Nat) : Grown1 w (w.drewN n) B tb deep fan names T' := by
  obtain ⟨B', h1, h2, h3⟩ := h.ex
  exact ⟨B', h1.of (w' := w.drewN n) (Nat.le_refl _) (fun _ _ => rfl), h2.drewN n, h3⟩
/-- A new shape's node, as it lies behind the statement that makes it. -/
def NewNode (w w' : World) (ks : List ByteArray) (z : ByteArray) (m : Nat) (y : Value) : Prop := ∃ yb v sb cb, y = .pointer (some ⟨yb, 0, none⟩) ∧ Blk w' yb 175 [v, .map (some sb), .map (some cb), .int .u64 m] ∧
  Strs w' v (ks ++ [z]) ∧ MI Try.prog 9 3 .i64 w' sb ks.length (slotF ks) ∧ MI Try.prog 9 3 .i64 w' cb 0 (fun _ => none) ∧ cb ≠ sb ∧ w.heap.size ≤ yb ∧ w.heap.size ≤ sb ∧ w.heap.size ≤ cb ∧ (∀ g, v.ownBlock = some g → w.heap.size ≤ g) ∧ Below w.heap.size w w'
theorem Strs.below {w w' : World} {v : Value} {ks : List ByteArray} (h : Strs w v ks) (hb : Below w.heap.size w w') : Strs w' v ks := ownsRow_of h fun g hg => hb.block g (h.lt g hg).2
theorem Strs.from {w w' : World} {N : Nat} {v : Value} {ks : List ByteArray} (h : Strs w v ks) (hN : ∀ g, v.ownBlock = some g → g < N) (hb : Below N w w') : Strs w' v ks := ownsRow_of h fun g hg => hb.block g (hN g hg)
/-- What each of the last operations of the statement leaves that makes a node. -/
def PhiN (w : World) (ks : List ByteArray) (z : ByteArray) (m : Nat) (done : Nat → Bool) : Nat → Nat → Nat → Value → World → Prop
  | 4, lo, hi, v, W => done 7 = true ∨ Strs W v ks ∧ ∀ g, v.ownBlock = some g → lo ≤ g ∧ g < hi
  | 6, lo, hi, v, W => ∃ b, v = .slice (some ⟨b, 0, none⟩) 1 1 ∧ Blk W b 9 [.string z] ∧ lo ≤ b ∧ b < hi
  | 7, _, _, v, W => Strs W v (ks ++ [z]) ∧ ∀ g, v.ownBlock = some g → w.heap.size ≤ g
  | 12, lo, hi, v, W => ∃ b, v = .map (some b) ∧ MI Try.prog 9 3 .i64 W b ks.length (slotF ks) ∧ lo ≤ b ∧ b < hi
  | 13, lo, hi, v, W => ∃ b, v = .map (some b) ∧ MI Try.prog 9 3 .i64 W b 0 (fun _ => none) ∧ lo ≤ b ∧ b < hi
  | 25, _, _, v, W => ∃ va sb cb, v = .agg #[va, .map (some sb), .map (some cb), .int .u64 m] ∧ Strs W va (ks ++ [z]) ∧ MI Try.prog 9 3 .i64 W sb ks.length (slotF ks) ∧ MI Try.prog 9 3 .i64 W cb 0 (fun _ => none) ∧
      cb ≠ sb ∧ w.heap.size ≤ sb ∧ w.heap.size ≤ cb ∧ ∀ g, va.ownBlock = some g → w.heap.size ≤ g
  | _, _, _, v, W => NewNode w W ks z m v
theorem PhiN_4 {w W : World} {ks : List ByteArray} {z : ByteArray} {m lo hi : Nat} {v : Value} {done : Nat → Bool} : PhiN w ks z m done 4 lo hi v W = (done 7 = true ∨ Strs W v ks ∧ ∀ g, v.ownBlock = some g → lo ≤ g ∧ g < hi) := rfl
theorem PhiN_6 {w W : World} {ks : List ByteArray} {z : ByteArray} {m lo hi : Nat} {v : Value} {done : Nat → Bool} : PhiN w ks z m done 6 lo hi v W = (∃ b, v = .slice (some ⟨b, 0, none⟩) 1 1 ∧ Blk W b 9 [.string z] ∧ lo ≤ b ∧ b < hi) := rfl
theorem PhiN_7 {w W : World} {ks : List ByteArray} {z : ByteArray} {m lo hi : Nat} {v : Value} {done : Nat → Bool} : PhiN w ks z m done 7 lo hi v W = (Strs W v (ks ++ [z]) ∧ ∀ g, v.ownBlock = some g → w.heap.size ≤ g) := rfl
theorem PhiN_12 {w W : World} {ks : List ByteArray} {z : ByteArray} {m lo hi : Nat} {v : Value} {done : Nat → Bool} : PhiN w ks z m done 12 lo hi v W = (∃ b, v = .map (some b) ∧ MI Try.prog 9 3 .i64 W b ks.length (slotF ks) ∧ lo ≤ b ∧ b < hi) := rfl
theorem PhiN_13 {w W : World} {ks : List ByteArray} {z : ByteArray} {m lo hi : Nat} {v : Value} {done : Nat → Bool} : PhiN w ks z m done 13 lo hi v W = (∃ b, v = .map (some b) ∧ MI Try.prog 9 3 .i64 W b 0 (fun _ => none) ∧ lo ≤ b ∧ b < hi) := rfl
theorem PhiN_25 {w W : World} {ks : List ByteArray} {z : ByteArray} {m lo hi : Nat} {v : Value} {done : Nat → Bool} : PhiN w ks z m done 25 lo hi v W = (∃ va sb cb, v = .agg #[va, .map (some sb), .map (some cb), .int .u64 m] ∧ Strs W va (ks ++ [z]) ∧ MI Try.prog 9 3 .i64 W sb ks.length (slotF ks) ∧ MI Try.prog 9 3 .i64 W cb 0 (fun _ => none) ∧
      cb ≠ sb ∧ w.heap.size ≤ sb ∧ w.heap.size ≤ cb ∧ ∀ g, va.ownBlock = some g → w.heap.size ≤ g) := rfl
theorem PhiN_26 {w W : World} {ks : List ByteArray} {z : ByteArray} {m lo hi : Nat} {v : Value} {done : Nat → Bool} : PhiN w ks z m done 26 lo hi v W = NewNode w W ks z m v := rfl
theorem PhiN_27 {w W : World} {ks : List ByteArray} {z : ByteArray} {m lo hi : Nat} {v : Value} {done : Nat → Bool} : PhiN w ks z m done 27 lo hi v W = NewNode w W ks z m v := rfl
theorem NewNode.below {w W W' : World} {ks : List ByteArray} {z : ByteArray} {m : Nat} {v : Value} (h : NewNode w W ks z m v) (hb : Below W.heap.size W W') : NewNode w W' ks z m v := by
  obtain ⟨yb, va, sb, cb, rfl, h1, h2, h3, h4, h5, h6, h7, h8, h9, h10⟩ := h
  exact ⟨yb, va, sb, cb, rfl, h1.of (hb.block _ h1.lt), h2.below hb, h3.of (hb.block _ h3.lt), h4.of (hb.block _ h4.lt), h5, h6, h7, h8, h9, h10.trans (hb.mono h10.size)⟩
theorem PhiN.mono {w W W' : World} {ks : List ByteArray} {z : ByteArray} {m j lo hi k : Nat} {v : Value} {done : Nat → Bool} (h : PhiN w ks z m done j lo hi v W) (hb : Below W.heap.size W W') : PhiN w ks z m (RG.upd done k) j lo hi v W' := by
  unfold PhiN at h ⊢
  split at h
  · rcases h with h | h
    · exact .inl (by unfold RG.upd; split <;> simp [h])
    · exact .inr ⟨h.1.below hb, h.2⟩
  · obtain ⟨b, e, h, h1⟩ := h; exact ⟨b, e, h.of (hb.block _ h.lt), h1⟩
  · exact ⟨h.1.below hb, h.2⟩
  · obtain ⟨b, e, h, h1⟩ := h; exact ⟨b, e, h.of (hb.block _ h.lt), h1⟩
  · obtain ⟨b, e, h, h1⟩ := h; exact ⟨b, e, h.of (hb.block _ h.lt), h1⟩
  · obtain ⟨va, sb, cb, e, h1, h2, h3, h4⟩ := h
    exact ⟨va, sb, cb, e, h1.below hb, h2.of (hb.block _ h2.lt), h3.of (hb.block _ h3.lt), h4⟩
  · exact NewNode.below h hb
theorem clone_any {w : World} {v : Value} {ks : List ByteArray} (h : Strs w v ks) (hb : ks.length ≤ 1000000) : Calls Try.prog 104 #[v] w fun e w' => ∃ v', e = .returned v' ∧ NewStrs w w' v' ks := by
  rcases h.2 with ⟨rfl, hn⟩ | ⟨g, cap, cur, rfl, hr⟩
  · obtain rfl : ks = [] := List.eq_nil_of_length_eq_zero hn
    refine (clone_nil w).mono ?_
    rintro e w' ⟨rfl, rfl⟩
    exact ⟨_, rfl, World.ownsRow_nil _ _ _ _, fun g hg => by (cases hg), Below.refl _ _⟩
  · refine (clone_strs w g ks.length cap ks h rfl hb).mono ?_
    rintro e w' ⟨v, rfl, h1, h2, h3, h4⟩
    exact ⟨v, rfl, h1, h2, h4⟩
theorem clone_mi {w : World} {b n : Nat} {f : ByteArray → Option Int} (h : MI Try.prog 9 3 .i64 w b n f) : Calls Try.prog 105 #[.map (some b)] w fun e w' => ∃ b', e = .returned (.map (some b')) ∧ MI Try.prog 9 3 .i64 w' b' n f ∧ w.heap.size ≤ b' ∧ Below w.heap.size w w' := by
  obtain ⟨es, c, he⟩ := h.obj
  refine (clone_map b es c w he).mono ?_
  rintro e w' ⟨rfl, rfl⟩
  exact ⟨_, rfl, h.copied (by rw [he]; exact (MapKept.heap_alloc w _).1), Nat.le_refl _, (Below.refl _ _).alloc (Nat.le_refl _) _⟩
set_option maxHeartbeats 2000000 in
set_option maxRecDepth 20000 in
theorem add_calls (h : TreeAt w B tb deep fan names T) (i : Int) (z : ByteArray) (hz : z.size ≤ maxLen) :
    Calls Try.prog 28 #[.pointer (some ⟨tb, 0, none⟩), .int .i64 i, .string z] w fun e w' =>
      e = .returned (.tuple #[.int .i64 (addM deep fan T i z).r, .bool (addM deep fan T i z).ok]) ∧ Grown1 w w' B tb deep fan names (addM deep fan T i z).T := by
  have hT := h
  have HT := Lib.hid hT
  obtain ⟨L, h⟩ := h
  by_cases hi : i < 0 ∨ (T.length : Int) ≤ i
  · have e : addM deep fan T i z = ⟨0, false, T⟩ := by unfold addM; rw [if_pos hi]
    rw [e]
    have H := Lib.hid (at_miss h i hi)
    have G := Lib.hid (Grown1.same HT.out)
    clear h hi e hT
    go_enter Try.func28, Try.ntmps28
    go_wp2_with (go_at_call 103; refine H.out.mono ?_; rintro e w' ⟨rfl, rfl⟩)
    go_ret2
    exact ⟨rfl, G.out⟩
  · obtain ⟨k, rfl⟩ : ∃ k : Nat, i = k := ⟨i.toNat, by omega⟩
    have hk : k < T.length := by omega
    have H := Lib.hid (at_hit h k hk)
    have c0 := (h.node k hk).cell 0 _ rfl
    have c1 := (h.node k hk).cell 1 _ rfl
    have c2 := (h.node k hk).cell 2 _ rfl
    have c3 := (h.node k hk).cell 3 _ rfl
    have lk := (h.slots k hk).look_ok law9 Try.underlying9 Try.underlying173 Try.underlying3 (zero3 w) z hz
    rw [mapD, mapS, slotOf_isSome] at lk
    by_cases hm : z ∈ ksOf T k
    · have e : addM deep fan T k z = ⟨0, false, T⟩ := by unfold addM; rw [if_neg hi]; dsimp only; rw [if_pos (show z ∈ (T.getD (k : Int).toNat ([], 0)).1 by rw [Int.toNat_natCast]; exact hm)]
      rw [e]
      have G := Lib.hid (Grown1.same HT.out)
      rw [decide_eq_true hm] at lk
      clear hi e hm h
      generalize (slotOf (ksOf T k) z).getD 0 = m at *
      go_enter Try.func28, Try.ntmps28
      go_wp2_with (go_at_call 103; refine H.out.mono ?_; rintro e w' ⟨rfl, rfl⟩)
      go_ret2
      exact ⟨rfl, G.out⟩
    · rw [decide_eq_false hm] at lk
      have lk2 := (h.kids k hk).look_ok law9 Try.underlying9 Try.underlying173 Try.underlying3 (zero3 w) z hz
      rw [mapD, mapS] at lk2
      rcases hkid : kidFrom T 0 k z with _ | j
      · rw [hkid] at lk2
        have e : addM deep fan T k z = if deep ≤ (ksOf T k).length ∨ fan ≤ kidCount T k ∨ 4096 ≤ T.length then ⟨0, false, T⟩ else ⟨T.length, true, T ++ [(ksOf T k ++ [z], (k : Int))]⟩ := by
          unfold addM; rw [if_neg hi]; dsimp only; rw [if_neg (show ¬ z ∈ (T.getD (k : Int).toNat ([], 0)).1 by rw [Int.toNat_natCast]; exact hm), hkid]; dsimp only; rw [Int.toNat_natCast]
        have d0 := h.hd.cell 0 _ rfl
        have d1 := h.hd.cell 1 _ rfl
        have d2 := h.hd.cell 2 _ rfl
        have d3 := h.hd.cell 3 _ rfl
        have ln1 := fun (W : World) ty => run_len_row (P := Try.prog) (w := W) (ty := ty) Try.underlying22 (h.keys k hk)
        have ln2 : ∀ (n : Nat) ty, (Builtin.len_ #[173] ty #[.map (some (L.cb k))]).run Try.prog (w.drewN n) = .ok (.int .i64 (kidCount T k)) (w.drewN n) := fun n ty => ((h.kids k hk).of (w' := w.drewN n) rfl).len Try.underlying173 ty
        by_cases hA : deep ≤ (ksOf T k).length
        · rw [e, if_pos (.inl hA)]
          have G := Lib.hid (Grown1.same HT.out)
          clear hi e hm h hkid
          generalize (slotOf (ksOf T k) z).getD 0 = m at *
          generalize (ksOf T k).length = l1 at *
          generalize kidCount T k = l2 at *
          generalize T.length = l3 at *
          go_enter Try.func28, Try.ntmps28
          go_wp2_with (go_at_call 103; refine H.out.mono ?_; rintro e w' ⟨rfl, rfl⟩)
          go_quiet (fail)
          go_wp2
          go_ret2
          exact ⟨rfl, Grown1.draws G.out _⟩
        · have hA' : decide (deep ≤ (((ksOf T k).length : Nat) : Int)) = false := decide_eq_false hA
          by_cases hB : fan ≤ kidCount T k
          · rw [e, if_pos (.inr (.inl hB))]
            have G := Lib.hid (Grown1.same HT.out)
            clear hi e hm h hkid hA
            generalize (slotOf (ksOf T k) z).getD 0 = m at *
            generalize (ksOf T k).length = l1 at *
            generalize kidCount T k = l2 at *
            generalize T.length = l3 at *
            go_enter Try.func28, Try.ntmps28
            go_wp2_with (go_at_call 103; refine H.out.mono ?_; rintro e w' ⟨rfl, rfl⟩)
            go_quiet (fail)
            go_wp2
            go_ret2
            exact ⟨rfl, Grown1.draws G.out _⟩
          · have hB' : decide (fan ≤ ((kidCount T k : Nat) : Int)) = false := decide_eq_false hB
            by_cases hC : 4096 ≤ T.length
            · rw [e, if_pos (.inr (.inr hC))]
              have G := Lib.hid (Grown1.same HT.out)
              have hC' : (4096 : Int) ≤ ((T.length : Nat) : Int) := by omega
              clear hi e hm h hkid hA hB hC
              generalize (slotOf (ksOf T k) z).getD 0 = m at *
              generalize (ksOf T k).length = l1 at *
              generalize kidCount T k = l2 at *
              generalize T.length = l3 at *
              go_enter Try.func28, Try.ntmps28
              go_wp2_with (go_at_call 103; refine H.out.mono ?_; rintro e w' ⟨rfl, rfl⟩)
              go_quiet (fail)
              go_wp2
              go_ret2
              exact ⟨rfl, Grown1.draws G.out _⟩
            · have hC' : decide ((4096 : Int) ≤ ((T.length : Nat) : Int)) = false := decide_eq_false (by omega)
              rw [e, if_neg (by rintro (h | h | h) <;> contradiction)]
              have h0 := Lib.hid h
              have KS := Lib.hid (h.keys k hk)
              have SL := Lib.hid (h.slots k hk)
              have K64 : Hid ((ksOf T k).length ≤ 1000000) := Lib.hid (by have h1 := h.wf.keys k hk; have h2 := h.wf.deep64; show (T.getD k ([], 0)).1.length ≤ _; omega)
              have HK0 := Lib.hid hk
              have EADD : Hid (addM deep fan T k z = ⟨T.length, true, T ++ [(ksOf T k ++ [z], (k : Int))]⟩) := Lib.hid (by rw [e, if_neg (by rintro (h | h | h) <;> contradiction)])
              have HM := Lib.hid hm
              have HKID := Lib.hid hkid
              clear hi e hm h hkid hA hB hC
              generalize (slotOf (ksOf T k) z).getD 0 = m at *
              generalize hl1 : (ksOf T k).length = l1 at ln1 hA'
              generalize hl2 : kidCount T k = l2 at ln2 hB'
              generalize hl3 : T.length = l3 at d3 hC'
              have E1 := Lib.hid hl1; have E2 := Lib.hid hl2; have E3 := Lib.hid hl3
              clear hl1 hl2 hl3
              go_enter Try.func28, Try.ntmps28
              go_wp2_with (go_at_call 103; refine H.out.mono ?_; rintro e w' ⟨rfl, rfl⟩)
              go_quiet (fail)
              go_upto_region 12 with (fail)
              go_cut [13] (fun y wc => NewNode w wc (ksOf T k) z (marksOf names (ksOf T k ++ [z])) y)
              case first =>
                refine wp_region_held (S := fun W => Below w.heap.size w W) (by kernel_rfl) ?_
                have hS0 : Below w.heap.size w ({ w.drewN nq with drawn := (w.drewN nq).drawn + 1 } : World) := ⟨rfl, rfl, rfl, Nat.le_refl _, fun _ _ => rfl⟩
                generalize ({ w.drewN nq with drawn := (w.drewN nq).drawn + 1 } : World) = w1 at hS0 ⊢
                have q0 : ∀ W, Below w.heap.size w W → W.cell? ⟨L.nb k, 0, none⟩ = some (L.kv k) := fun W hW => (hW.cell (World.block_lt_of_cell? w _ c0)).trans c0
                have q1 : ∀ W, Below w.heap.size w W → W.cell? ⟨L.nb k, 1, none⟩ = some (.map (some (L.sb k))) := fun W hW => (hW.cell (World.block_lt_of_cell? w _ c1)).trans c1
                have q3 : ∀ W, Below w.heap.size w W → W.cell? ⟨L.nb k, 3, none⟩ = some (.int .u64 (marksOf names (ksOf T k) : Nat)) := fun W hW => (hW.cell (World.block_lt_of_cell? w _ c3)).trans c3
                have q4 : ∀ W, Below w.heap.size w W → W.cell? ⟨tb, 2, none⟩ = some (.map (some L.mb)) := fun W hW => (hW.cell (World.block_lt_of_cell? w _ d2)).trans d2
                have q5 : ∀ W, Below w.heap.size w W → (Instr.lookup 176 (.map (some L.mb)) (.string z) false).run Try.prog W = .ok (.int .u64 (bitsOf names fun m => decide (m = z) : Nat)) W := fun W hW => by
                  obtain ⟨n, hm⟩ := h0.out.mrk
                  have := (hm.of (w' := W) (hW.block _ hm.lt)).look law9 Try.underlying9 Try.underlying176 Try.underlying38 (zero38 W) z hz
                  rwa [markF_getD] at this
                refine wpAnyH_take (i := 0) (oi := ⟨some 71, _, _, _, _, _⟩) (v := ?_) rfl (by kernel_rfl) (by kernel_rfl) (by kernel_rfl) (fun _ _ _ h => h) (Or.inl ⟨by rfl, ?hy0⟩) hS0 ?rest0
                case hy0 => (intro W hW; (try dsimp only at hW); go_simp; try with_reducible rfl)
                simp only [Act.put, List.setIfInBounds_toArray, List.set_cons_zero, List.set_cons_succ]
                refine wpAnyH_take (i := 1) (oi := ⟨some 72, _, _, _, _, _⟩) (v := ?_) rfl (by kernel_rfl) (by kernel_rfl) (by kernel_rfl) (fun _ _ _ h => h) (Or.inl ⟨by rfl, ?hy1⟩) hS0 ?rest1
                case hy1 => (intro W hW; (try dsimp only at hW); go_simp; try with_reducible rfl)
                simp only [Act.put, List.setIfInBounds_toArray, List.set_cons_zero, List.set_cons_succ]
                refine wpAnyH_take (i := 2) (oi := ⟨some 73, _, _, _, _, _⟩) (v := ?_) rfl (by kernel_rfl) (by kernel_rfl) (by kernel_rfl) (fun _ _ _ h => h) (Or.inl ⟨by rfl, ?hy2⟩) hS0 ?rest2
                case hy2 => (intro W hW; (try dsimp only at hW); go_simp; try with_reducible rfl)
                simp only [Act.put, List.setIfInBounds_toArray, List.set_cons_zero, List.set_cons_succ]
                refine wpAnyH_take (i := 3) (oi := ⟨some 74, _, _, _, _, _⟩) (v := ?_) rfl (by kernel_rfl) (by kernel_rfl) (by kernel_rfl) (fun _ _ _ h => h) (Or.inl ⟨by rfl, ?hy3⟩) hS0 ?rest3
                case hy3 => (intro W hW; (try dsimp only at hW); go_simp; try with_reducible rfl)
                simp only [Act.put, List.setIfInBounds_toArray, List.set_cons_zero, List.set_cons_succ]
                refine wpAnyH_take (i := 5) (oi := ⟨some 76, _, _, _, _, _⟩) (v := ?_) rfl (by kernel_rfl) (by kernel_rfl) (by kernel_rfl) (fun _ _ _ h => h) (Or.inl ⟨by rfl, ?hy5⟩) hS0 ?rest5
                case hy5 => (intro W hW; (try dsimp only at hW); go_simp; try with_reducible rfl)
                simp only [Act.put, List.setIfInBounds_toArray, List.set_cons_zero, List.set_cons_succ]
                refine wpAnyH_take (i := 8) (oi := ⟨some 79, _, _, _, _, _⟩) (v := ?_) rfl (by kernel_rfl) (by kernel_rfl) (by kernel_rfl) (fun _ _ _ h => h) (Or.inl ⟨by rfl, ?hy8⟩) hS0 ?rest8
                case hy8 => (intro W hW; (try dsimp only at hW); go_simp; try with_reducible rfl)
                simp only [Act.put, List.setIfInBounds_toArray, List.set_cons_zero, List.set_cons_succ]
                refine wpAnyH_take (i := 9) (oi := ⟨some 80, _, _, _, _, _⟩) (v := ?_) rfl (by kernel_rfl) (by kernel_rfl) (by kernel_rfl) (fun _ _ _ h => h) (Or.inl ⟨by rfl, ?hy9⟩) hS0 ?rest9
                case hy9 => (intro W hW; (try dsimp only at hW); go_simp; try with_reducible rfl)
                simp only [Act.put, List.setIfInBounds_toArray, List.set_cons_zero, List.set_cons_succ]
                refine wpAnyH_take (i := 10) (oi := ⟨some 81, _, _, _, _, _⟩) (v := ?_) rfl (by kernel_rfl) (by kernel_rfl) (by kernel_rfl) (fun _ _ _ h => h) (Or.inl ⟨by rfl, ?hy10⟩) hS0 ?rest10
                case hy10 => (intro W hW; (try dsimp only at hW); go_simp; try with_reducible rfl)
                simp only [Act.put, List.setIfInBounds_toArray, List.set_cons_zero, List.set_cons_succ]
                refine wpAnyH_take (i := 11) (oi := ⟨some 82, _, _, _, _, _⟩) (v := ?_) rfl (by kernel_rfl) (by kernel_rfl) (by kernel_rfl) (fun _ _ _ h => h) (Or.inl ⟨by rfl, ?hy11⟩) hS0 ?rest11
                case hy11 => (intro W hW; (try dsimp only at hW); go_simp; try with_reducible rfl)
                simp only [Act.put, List.setIfInBounds_toArray, List.set_cons_zero, List.set_cons_succ]
                refine wpAnyH_take (i := 14) (oi := ⟨some 85, _, _, _, _, _⟩) (v := ?_) rfl (by kernel_rfl) (by kernel_rfl) (by kernel_rfl) (fun _ _ _ h => h) (Or.inl ⟨by rfl, ?hy14⟩) hS0 ?rest14
                case hy14 => (intro W hW; (try dsimp only at hW); go_simp; try with_reducible rfl)
                simp only [Act.put, List.setIfInBounds_toArray, List.set_cons_zero, List.set_cons_succ]
                refine wpAnyH_take (i := 15) (oi := ⟨some 86, _, _, _, _, _⟩) (v := ?_) rfl (by kernel_rfl) (by kernel_rfl) (by kernel_rfl) (fun _ _ _ h => h) (Or.inl ⟨by rfl, ?hy15⟩) hS0 ?rest15
                case hy15 => (intro W hW; (try dsimp only at hW); go_simp; try with_reducible rfl)
                simp only [Act.put, List.setIfInBounds_toArray, List.set_cons_zero, List.set_cons_succ]
                refine wpAnyH_take (i := 16) (oi := ⟨some 87, _, _, _, _, _⟩) (v := ?_) rfl (by kernel_rfl) (by kernel_rfl) (by kernel_rfl) (fun _ _ _ h => h) (Or.inl ⟨by rfl, ?hy16⟩) hS0 ?rest16
                case hy16 => (intro W hW; (try dsimp only at hW); go_simp; try with_reducible rfl)
                simp only [Act.put, List.setIfInBounds_toArray, List.set_cons_zero, List.set_cons_succ]
                refine wpAnyH_take (i := 17) (oi := ⟨some 88, _, _, _, _, _⟩) (v := ?_) rfl (by kernel_rfl) (by kernel_rfl) (by kernel_rfl) (fun _ _ _ h => h) (Or.inl ⟨by rfl, ?hy17⟩) hS0 ?rest17
                case hy17 => (intro W hW; (try dsimp only at hW); go_simp; try with_reducible rfl)
                simp only [Act.put, List.setIfInBounds_toArray, List.set_cons_zero, List.set_cons_succ]
                refine wpAnyH_take (i := 18) (oi := ⟨some 89, _, _, _, _, _⟩) (v := ?_) rfl (by kernel_rfl) (by kernel_rfl) (by kernel_rfl) (fun _ _ _ h => h) (Or.inl ⟨by rfl, ?hy18⟩) hS0 ?rest18
                case hy18 => (intro W hW; (try dsimp only at hW); go_simp; try with_reducible rfl)
                simp only [Act.put, List.setIfInBounds_toArray, List.set_cons_zero, List.set_cons_succ]
                refine wpAnyH_take (i := 19) (oi := ⟨some 90, _, _, _, _, _⟩) (v := ?_) rfl (by kernel_rfl) (by kernel_rfl) (by kernel_rfl) (fun _ _ _ h => h) (Or.inl ⟨by rfl, ?hy19⟩) hS0 ?rest19
                case hy19 => (intro W hW; (try dsimp only at hW); go_simp; try with_reducible rfl)
                simp only [Act.put, List.setIfInBounds_toArray, List.set_cons_zero, List.set_cons_succ]
                refine wpAnyH_take (i := 20) (oi := ⟨some 91, _, _, _, _, _⟩) (v := ?_) rfl (by kernel_rfl) (by kernel_rfl) (by kernel_rfl) (fun _ _ _ h => h) (Or.inl ⟨by rfl, ?hy20⟩) hS0 ?rest20
                case hy20 => (intro W hW; (try dsimp only at hW); go_simp; try with_reducible rfl)
                simp only [Act.put, List.setIfInBounds_toArray, List.set_cons_zero, List.set_cons_succ]
                refine wpAnyH_take (i := 21) (oi := ⟨some 92, _, _, _, _, _⟩) (v := ?_) rfl (by kernel_rfl) (by kernel_rfl) (by kernel_rfl) (fun _ _ _ h => h) (Or.inl ⟨by rfl, ?hy21⟩) hS0 ?rest21
                case hy21 => (intro W hW; (try dsimp only at hW); go_simp; try with_reducible rfl)
                simp only [Act.put, List.setIfInBounds_toArray, List.set_cons_zero, List.set_cons_succ]
                refine wpAnyH_take (i := 22) (oi := ⟨some 93, _, _, _, _, _⟩) (v := ?_) rfl (by kernel_rfl) (by kernel_rfl) (by kernel_rfl) (fun _ _ _ h => h) (Or.inl ⟨by rfl, ?hy22⟩) hS0 ?rest22
                case hy22 => (intro W hW; (try dsimp only at hW); go_simp; try with_reducible rfl)
                simp only [Act.put, List.setIfInBounds_toArray, List.set_cons_zero, List.set_cons_succ]
                refine wpAnyH_take (i := 23) (oi := ⟨some 94, _, _, _, _, _⟩) (v := ?_) rfl (by kernel_rfl) (by kernel_rfl) (by kernel_rfl) (fun _ _ _ h => h) (Or.inl ⟨by rfl, ?hy23⟩) hS0 ?rest23
                case hy23 => (intro W hW; (try dsimp only at hW); go_simp; try with_reducible rfl)
                simp only [Act.put, List.setIfInBounds_toArray, List.set_cons_zero, List.set_cons_succ]
                refine wpAnyH_take (i := 24) (oi := ⟨some 95, _, _, _, _, _⟩) (v := ?_) rfl (by kernel_rfl) (by kernel_rfl) (by kernel_rfl) (fun _ _ _ h => h) (Or.inl ⟨by rfl, ?hy24⟩) hS0 ?rest24
                case hy24 => (intro W hW; (try dsimp only at hW); go_simp; try with_reducible rfl)
                simp only [Act.put, List.setIfInBounds_toArray, List.set_cons_zero, List.set_cons_succ]
                obtain ⟨i0, hi0, hz0, hz1, hz2⟩ := info_parts info9
                refine RG.grow [4, 6, 7, 12, 13, 25, 26, 27] [75, 77, 78, 83, 84, 96, 97, 13] (fun j => if j = 27 then 13 else j + 71) (fun | 7 => [4, 6] | 12 => [7] | 25 => [7, 12, 13] | 26 => [25] | 27 => [26] | _ => []) _ _ (by kernel_rfl) (by kernel_rfl)
                  (PhiN w (ksOf T k) z (marksOf names (ksOf T k ++ [z]))) w1 hS0 ?step ?fin _ (by decide)
                case fin =>
                  intro vals W lo hi hW hI _
                  have hN := (hI 27 (by decide)).2.2.2
                  rw [PhiN_27] at hN
                  simp only [if_true] at hN
                  clear hI
                  simp only [RG.fill, List.foldl_cons, List.foldl_nil, Act.put, List.setIfInBounds_toArray, List.set_cons_zero, List.set_cons_succ]
                  go_wp2
                  go_meet
                  case rel => exact hN
                case step =>
                  intro j hjs done lo hi a1 W ha hW hsz hj hd hI
                  have hk0 : w.heap.size ≤ w1.heap.size := hS0.size
                  have hks := KS.out
                  have hsl := SL.out
                  have h64 := K64.out
                  simp only [List.mem_cons, List.not_mem_nil, or_false] at hjs
                  rcases hjs with rfl | rfl | rfl | rfl | rfl | rfl | rfl | rfl
                  · refine RG.wpOp_plain rfl rfl fun K hK => ?_
                    have e74 : a1.tmps.getD 74 undef = L.kv k := ha.out 74 (by decide)
                    go_simp
                    refine (clone_any (Strs.from hks (fun g hg => (hks.lt g hg).2) hW) h64).mono ?_
                    rintro e w' ⟨v, rfl, h1, h2, h3⟩
                    exact hK _ _ ⟨hW.trans (h3.mono hW.size), h3.size, v, rfl, fun i hi0 hdi => (hI.at_ i hi0 hdi).2.2.2.mono h3, by rw [PhiN_4]; exact .inr ⟨h1, fun g hg => ⟨h2 g hg, (h1.lt g hg).2⟩⟩⟩
                  · refine RG.wpOp_plain rfl rfl fun K hK => ?_
                    have e74 : a1.tmps[76]?.getD undef = .string z := (RG.getD_form _ _).symm.trans (ha.out 76 (by decide))
                    go_simp
                    have hb : Below W.heap.size W (W.alloc (.cells #[.string z] 9)) := (Below.refl _ _).alloc (Nat.le_refl _) _
                    exact hK _ _ ⟨hW.trans (hb.mono hW.size), hb.size, _, rfl, fun i hi0 hdi => (hI.at_ i hi0 hdi).2.2.2.mono hb, by rw [PhiN_6]; exact ⟨_, rfl, Blk.new W [.string z] 9, Nat.le_refl _, by simp⟩⟩
                  · refine RG.wpOp_plain rfl rfl fun K hK => ?_
                    obtain ⟨_, l4, h4, hp4⟩ := hI.at_ 4 (by decide) (hd 4 (by decide))
                    obtain ⟨_, l6, h6, hp6⟩ := hI.at_ 6 (by decide) (hd 6 (by decide))
                    have hap := hI.apart 4 (by decide) 6 (by decide) (hd 4 (by decide)) (hd 6 (by decide)) (by decide)
                    rw [PhiN_4] at hp4; rw [PhiN_6] at hp6
                    obtain ⟨hs4, hb4⟩ := hp4.resolve_left (by rw [hj]; decide)
                    obtain ⟨b6, e77, hb6, hlo6, hhi6⟩ := hp6
                    rw [if_neg (by decide)] at hs4 hb4 e77
                    generalize e75 : a1.tmps.getD (4 + 71) undef = va at hs4 hb4
                    have hbase : W.ownsRow w.heap.size 9 1 va (ksOf T k).length ((ksOf T k).map .string) := by
                      refine ⟨hs4.1, ?_⟩
                      rcases hs4.2 with h | ⟨g, c, cur, q1, _, q3⟩
                      · exact .inl h
                      · exact .inr ⟨g, c, cur, q1, by have := (hb4 g (by rw [q1]; rfl)).1; omega, q3⟩
                    have hm : maxLen = 9223372036854775807 := rfl
                    refine wp_append_own W _ _ 22 rfl w.heap.size 9 i0 (.string ByteArray.empty) 1 16 Try.underlying22 hi0 hz0 hz1 hz2 rfl (by decide) va _ _ e75 hbase ⟨b6, 0, none⟩ 1 1 [.string z] e77 rfl (fun j u hu => ?_) (by simp [Value.oneCell']) (by omega) (by omega) hW.size ?_
                    · rw [addr0]; exact hb6.cell j u hu
                    · intro v' w' hown hg _
                      have hown' : Strs w' v' (ksOf T k ++ [z]) := by
                        refine ⟨by simp, ?_⟩
                        rcases hown.2 with ⟨q1, q2⟩ | ⟨g, c, cur, q1, _, q3⟩
                        · omega
                        · exact .inr ⟨g, c, cur, by simpa using q1, Nat.zero_le _, by simpa using q3⟩
                      have hkeep : ∀ b, b < W.heap.size → va.ownBlock ≠ some b → w'.heap[b]? = W.heap[b]? := fun b hb hne => hg.block b hb (fun e => hne e.symm)
                      refine hK _ _ ⟨hW.trans ⟨hg.os, hg.tape, hg.output, hg.size, fun b hb => hkeep b (Nat.lt_of_lt_of_le hb hW.size) (fun e => by have := (hbase.lt b e).1; omega)⟩, hg.size, v', rfl, ?_, by rw [PhiN_7]; exact ⟨hown', fun g e => (hown.lt g e).1⟩⟩
                      intro i his hdi
                      simp only [List.mem_cons, List.not_mem_nil, or_false] at his
                      rcases his with rfl | rfl | rfl | rfl | rfl | rfl | rfl | rfl
                      · rw [PhiN_4]; exact .inl rfl
                      · rw [PhiN_6, if_neg (by decide)]; exact ⟨b6, e77, hb6.of (hkeep _ hb6.lt (fun e => by have := hb4 _ e; omega)), hlo6, hhi6⟩
                      · rw [hj] at hdi; cases hdi
                      · have := hI.dep 12 (by decide) hdi 7 (by decide); rw [hj] at this; cases this
                      · have hp := (hI.at_ 13 (by decide) hdi).2.2.2
                        rw [PhiN_13] at hp ⊢
                        obtain ⟨b, e, h1, h2, h3⟩ := hp
                        refine ⟨b, e, h1.of (hkeep _ h1.lt (fun e => ?_)), h2, h3⟩
                        have ha2 := hI.apart 4 (by decide) 13 (by decide) (hd 4 (by decide)) hdi (by decide)
                        have := hb4 _ e
                        omega
                      · have := hI.dep 25 (by decide) hdi 7 (by decide); rw [hj] at this; cases this
                      · have := hI.dep 25 (by decide) (hI.dep 26 (by decide) hdi 25 (by decide)) 7 (by decide); rw [hj] at this; cases this
                      · have := hI.dep 25 (by decide) (hI.dep 26 (by decide) (hI.dep 27 (by decide) hdi 26 (by decide)) 25 (by decide)) 7 (by decide); rw [hj] at this; cases this
                  · refine RG.wpOp_plain rfl rfl fun K hK => ?_
                    have e74 : a1.tmps.getD 82 undef = .map (some (L.sb k)) := ha.out 82 (by decide)
                    go_simp
                    refine (clone_mi (hsl.of (hW.block _ hsl.lt))).mono ?_
                    rintro e w' ⟨v, rfl, h1, h2, h3⟩
                    exact hK _ _ ⟨hW.trans (h3.mono hW.size), h3.size, _, rfl, fun i hi0 hdi => (hI.at_ i hi0 hdi).2.2.2.mono h3, by rw [PhiN_12]; exact ⟨_, rfl, h1, h2, h1.lt⟩⟩
                  · refine RG.wpOp_plain rfl rfl fun K hK => ?_
                    have hmm := @run_makeMap Try.prog
                    go_simp
                    have hb : Below W.heap.size W (W.alloc (.map #[] 0)) := (Below.refl _ _).alloc (Nat.le_refl _) _
                    exact hK _ _ ⟨hW.trans (hb.mono hW.size), hb.size, _, rfl, fun i hi0 hdi => (hI.at_ i hi0 hdi).2.2.2.mono hb, by rw [PhiN_13]; exact ⟨_, rfl, MI.made W, Nat.le_refl _, by simp⟩⟩
                  · refine RG.wpOp_plain rfl rfl fun K hK => ?_
                    obtain ⟨_, _, _, hp7⟩ := hI.at_ 7 (by decide) (hd 7 (by decide))
                    obtain ⟨n12, l12, h12, hp12⟩ := hI.at_ 12 (by decide) (hd 12 (by decide))
                    obtain ⟨n13, l13, h13, hp13⟩ := hI.at_ 13 (by decide) (hd 13 (by decide))
                    have hap := hI.apart 12 (by decide) 13 (by decide) (hd 12 (by decide)) (hd 13 (by decide)) (by decide)
                    rw [PhiN_7] at hp7; rw [PhiN_12] at hp12; rw [PhiN_13] at hp13
                    obtain ⟨hs7, hg7⟩ := hp7
                    obtain ⟨sb, e83, hs12, hb1, hb2⟩ := hp12
                    obtain ⟨cb, e84, hs13, hc1, hc2⟩ := hp13
                    rw [if_neg (by decide)] at hs7 hg7 e83 e84
                    generalize e78 : a1.tmps.getD (7 + 71) undef = va at hs7 hg7
                    have f78 : a1.tmps[78]?.getD undef = va := (RG.getD_form _ _).symm.trans e78
                    have f83 : a1.tmps[83]?.getD undef = .map (some sb) := (RG.getD_form _ _).symm.trans e83
                    have f84 : a1.tmps[84]?.getD undef = .map (some cb) := (RG.getD_form _ _).symm.trans e84
                    have f95 : a1.tmps[95]?.getD undef = .int .u64 (marksOf names (ksOf T k ++ [z]) : Nat) := by
                      refine (RG.getD_form _ _).symm.trans ((ha.out 95 (by decide)).trans ?_)
                      have h1 := marksOf_lt names (ksOf T k) h0.out.nm
                      have h2 : bitsOf names (fun m => decide (m = z)) < 2 ^ 64 := Nat.lt_of_lt_of_le (bitsOf_lt _ _) (Nat.pow_le_pow_right (by omega) h0.out.nm)
                      have h3 := bits_or_u64_nat _ _ h1 h2
                      rw [marksOf_snoc] at h3
                      simpa using h3
                    obtain ⟨g7, c7, rfl⟩ : ∃ g c, va = .slice (some ⟨g, 0, none⟩) ((ksOf T k).length + 1) c := by
                      rcases hs7.2 with ⟨_, q⟩ | ⟨g, c, cur, q, _⟩
                      · simp at q
                      · exact ⟨g, c, by simpa using q⟩
                    go_simp
                    have hb : Below W.heap.size W W := Below.refl _ _
                    exact hK _ _ ⟨hW, Nat.le_refl _, _, rfl, fun i hi0 hdi => (hI.at_ i hi0 hdi).2.2.2.mono hb, by rw [PhiN_25]; exact ⟨_, sb, cb, rfl, hs7, hs12, hs13, by omega, by omega, by omega, hg7⟩⟩
                  · refine RG.wpOp_plain rfl rfl fun K hK => ?_
                    obtain ⟨_, _, _, hp25⟩ := hI.at_ 25 (by decide) (hd 25 (by decide))
                    rw [PhiN_25, if_neg (by decide)] at hp25
                    obtain ⟨va, sb, cb, e96, h1, h2, h3, h4, h5, h6, h7⟩ := hp25
                    have f96 : a1.tmps[96]?.getD undef = .agg #[va, .map (some sb), .map (some cb), .int .u64 (marksOf names (ksOf T k ++ [z]) : Nat)] := (RG.getD_form _ _).symm.trans e96
                    go_simp
                    have hb : Below W.heap.size W (W.alloc (.cells #[va, .map (some sb), .map (some cb), .int .u64 (marksOf names (ksOf T k ++ [z]) : Nat)] 175)) := (Below.refl _ _).alloc (Nat.le_refl _) _
                    exact hK _ _ ⟨hW.trans (hb.mono hW.size), hb.size, _, rfl, fun i hi0 hdi => (hI.at_ i hi0 hdi).2.2.2.mono hb, by
                      rw [PhiN_26]
                      exact ⟨_, va, sb, cb, rfl, Blk.new W [va, .map (some sb), .map (some cb), .int .u64 (marksOf names (ksOf T k ++ [z]) : Nat)] 175, h1.below hb, h2.of (hb.block _ h2.lt), h3.of (hb.block _ h3.lt), h4, hW.size, h5, h6, h7, hW.trans (hb.mono hW.size)⟩⟩
                  · refine RG.wpOp_plain rfl rfl fun K hK => ?_
                    obtain ⟨_, _, _, hp26⟩ := hI.at_ 26 (by decide) (hd 26 (by decide))
                    rw [PhiN_26, if_neg (by decide)] at hp26
                    generalize e97 : a1.tmps.getD (26 + 71) undef = y at hp26
                    have f97 : a1.tmps[97]?.getD undef = y := (RG.getD_form _ _).symm.trans e97
                    go_simp
                    exact hK _ _ ⟨hW, Nat.le_refl _, y, rfl, fun i hi0 hdi => (hI.at_ i hi0 hdi).2.2.2.mono (Below.refl _ _), by rw [PhiN_27]; exact hp26⟩
              case rest =>
                obtain ⟨yb, va, sb, cb, hy, hyb, hva, hsb, hcb, hne, f1, f2, f3, f4, hB⟩ := hcut
                subst hy
                have hk' := HK0.out
                obtain ⟨w2, hrun2, hs2, hg2⟩ := (hsb.of (w' := wc.drew) rfl).store law9 Try.underlying9 Try.underlying173 Try.underlying3 (by have := K64.out; unfold maxLen; omega) z hz ((ksOf T k).length : Nat) (WalkArith.wf_i64 (by have := K64.out; omega))
                rw [if_neg (by unfold slotF; rw [mapS, slotOf_none.2 HM.out]; decide), E1.out] at hs2
                rw [E1.out] at hrun2
                have ltk := (h0.out.kids k hk').lt
                have hk2 := (h0.out.kids k hk').of (w' := w2) ((hg2.block _ (Nat.lt_of_lt_of_le ltk hB.size) (fun e => by cases e; omega)).trans (hB.block _ ltk))
                obtain ⟨w3, hrun3, hs3, hg3⟩ := hk2.store law9 Try.underlying9 Try.underlying173 Try.underlying3 (by have h1 := kidCount_le T k; have h2 := h0.out.wf.le; unfold maxLen; omega) z hz (T.length : Nat) (WalkArith.wf_i64 (by have := h0.out.wf.le; omega))
                rw [if_neg (by unfold kidF; rw [mapS, HKID.out]; decide)] at hs3
                rw [E3.out] at hrun3
                have lt0 := World.block_lt_of_cell? w _ c0
                have lt2 := World.block_lt_of_cell? w _ c2
                have ltt := World.block_lt_of_cell? w _ d3
                have x0 : wc.cell? ⟨L.nb k, 0, none⟩ = some (L.kv k) := (hB.cell lt0).trans c0
                have x1 : wc.cell? ⟨yb, 1, none⟩ = some (.map (some sb)) := hyb.cell 1 _ rfl
                have x2 : w2.cell? ⟨tb, 3, none⟩ = some (.slice (some ⟨L.vb, 0, none⟩) l3 L.cap) := (World.cell?_of_block (w := wc.drew) (hg2.block _ (Nat.lt_of_lt_of_le ltt hB.size) (fun e => by cases e; omega))).trans ((hB.cell ltt).trans d3)
                have x3 : w2.cell? ⟨L.nb k, 2, none⟩ = some (.map (some (L.cb k))) := (World.cell?_of_block (w := wc.drew) (hg2.block _ (Nat.lt_of_lt_of_le lt2 hB.size) (fun e => by cases e; omega))).trans ((hB.cell lt2).trans c2)
                have z2 : wc.heap.size ≤ w2.heap.size := hg2.size
                have x4 : w3.cell? ⟨tb, 3, none⟩ = some (.slice (some ⟨L.vb, 0, none⟩) l3 L.cap) := (World.cell?_of_block (w := w2) (hg3.block _ (Nat.lt_of_lt_of_le ltt (Nat.le_trans hB.size z2)) (fun e => by cases e; exact (h0.out.kids k hk').blk_ne h0.out.hd rfl))).trans x2
                have hvb := (h0.out.row.lt L.vb rfl).2
                have vne : L.cb k ≠ L.vb := by
                  intro e
                  obtain ⟨es, n, ho⟩ := (h0.out.kids k hk').obj
                  rcases h0.out.row.2 with ⟨q, _⟩ | ⟨g0, cc0, cur, q, _, q3, _⟩
                  · cases q
                  · cases q; rw [e, q3] at ho; cases ho
                have hrow3 : w3.ownsRow 0 171 1 (.slice (some ⟨L.vb, 0, none⟩) l3 L.cap) l3 ((List.range l3).map fun i => .pointer (some ⟨L.nb i, 0, none⟩)) := by
                  have q := ownsRow_of (w' := w3) h0.out.row (fun g hg => by
                    cases hg
                    exact (hg3.block _ (Nat.lt_of_lt_of_le hvb (Nat.le_trans hB.size z2)) (fun e => vne (Option.some.inj e).symm)).trans ((hg2.block _ (Nat.lt_of_lt_of_le hvb hB.size) (fun e => by cases e; omega)).trans (hB.block _ hvb)))
                  rwa [E3.out] at q
                have yne := hsb.blk_ne hyb
                have vane : ∀ q, va.ownBlock = some q → q ≠ sb := by
                  intro q hq e
                  obtain ⟨es, n, ho⟩ := hsb.obj
                  rcases hva.2 with ⟨q1, _⟩ | ⟨g0, cc0, cur, q1, _, q3, _⟩
                  · rw [q1] at hq; cases hq
                  · rw [q1] at hq; cases hq; have e' : g0 = sb := e; rw [e', show wc.heap[sb]? = _ from ho] at q3; cases q3
                have YNE := Lib.hid yne
                have VANE := Lib.hid vane
                clear yne vane
                have HROW := Lib.hid hrow3
                have hhd3 : Blk w3 tb 179 [.int .i64 deep, .int .i64 fan, .map (some L.mb), .slice (some ⟨L.vb, 0, none⟩) l3 L.cap] := by
                  have q : Blk w3 tb 179 _ := h0.out.hd.of ((hg3.block _ (Nat.lt_of_lt_of_le ltt (Nat.le_trans hB.size z2)) (fun e => (h0.out.kids k hk').blk_ne h0.out.hd (Option.some.inj e))).trans ((hg2.block _ (Nat.lt_of_lt_of_le ltt hB.size) (fun e => by cases e; omega)).trans (hB.block _ ltt)))
                  rwa [E3.out] at q
                have HHD := Lib.hid hhd3
                have tvb : tb ≠ L.vb := by
                  intro e
                  rcases h0.out.row.2 with ⟨q, _⟩ | ⟨g0, cc0, cur, q, _, q3, _⟩
                  · cases q
                  · cases q
                    have := (show w.heap[tb]? = _ from h0.out.hd).symm.trans (e ▸ q3)
                    simp at this
                have TVB := Lib.hid tvb
                have L3 : Hid (l3 ≤ 4096) := Lib.hid (by rw [← E3.out]; exact h0.out.wf.le)
                have VNE := Lib.hid vne
                have HVB := Lib.hid hvb
                obtain ⟨j0, hj0, jz0, jz1, jz2⟩ := info_parts info171
                clear hvb vne hrow3 hhd3 tvb
                have HS2 := Lib.hid hs2; have HS3 := Lib.hid hs3; have HG2 := Lib.hid hg2; have HG3 := Lib.hid hg3; have HYB := Lib.hid hyb; have HVA := Lib.hid hva; have HCB := Lib.hid hcb; have HBB := Lib.hid hB
                have HF := Lib.hid (And.intro f1 (And.intro f2 (And.intro f3 (And.intro f4 hne))))
                clear hs2 hs3 hg2 hg3 hyb hva hcb hB hk2 hsb hne f1 f2 f3 f4 c0 c1 c2 c3 d0 d1 d2 d3 lk lk2 ln2 ltk lt0 lt2 ltt z2 hk'
                go_wp2_with fail
                go_still_tail 10, (by kernel_rfl)
                go_wp2_with (at_builtin; refine wpList_append_lies _ rfl _ _ 177 rfl 0 171 j0 (.pointer none) 1 8 Try.underlying177 hj0 jz0 jz1 jz2 rfl (by decide) _ l3 _ rfl (HROW.out.alloc _) ⟨w3.heap.size, 0, none⟩ 1 1 [.pointer (some ⟨yb, 0, none⟩)] rfl rfl (cell_one_new _ _ _) (by simp [Value.oneCell']) (by decide) (by have := L3.out; unfold maxLen; omega) (by have := L3.out; omega) (Nat.zero_le _) (w3.heap.size + 1) (by simp) ?_; intro g4 c4 w4 hown4 hg4 hat4 hlt4; have hd4 := (HHD.out.alloc (.cells #[.pointer (some ⟨yb, 0, none⟩)] 171)).of (hg4.block tb (HHD.out.alloc _).lt (fun e => TVB.out (Option.some.inj e))); have x5 := hd4.cell 3 _ rfl; have x6 := hd4.frozen 3; have HD4 := Lib.hid hd4; have HO4 := Lib.hid hown4; have HG4 := Lib.hid hg4; have HA4 := Lib.hid hat4; clear hd4 hown4 hg4 hat4)
                go_ret2
                have hB := HBB.out
                obtain ⟨f1, f2, f3, f4, hne⟩ := HF.out
                have hk' := HK0.out
                have TI := h0.out
                have lt_tb := TI.hd.lt
                have lt_vb := HVB.out
                have lt_cb := (TI.kids k hk').lt
                have z2 : wc.heap.size ≤ w2.heap.size := HG2.out.size
                have z3 := HG3.out.size
                have z4 : w3.heap.size + 1 ≤ w4.heap.size := by have := HG4.out.size; simpa using this
                have K0 : ∀ b, b < w.heap.size → wc.heap[b]? = w.heap[b]? := fun b hb => hB.block b hb
                have K1 : ∀ b, b < wc.heap.size → b ≠ sb → w2.heap[b]? = wc.heap[b]? := fun b hb hn => HG2.out.block b hb (fun e => hn (Option.some.inj e))
                have K2 : ∀ b, b < w2.heap.size → b ≠ L.cb k → w3.heap[b]? = w2.heap[b]? := fun b hb hn => HG3.out.block b hb (fun e => hn (Option.some.inj e))
                have K3 : ∀ b, b < w3.heap.size → b ≠ L.vb → w4.heap[b]? = w3.heap[b]? := fun b hb hn => (HG4.out.block b (by simp; omega) (fun e => hn (Option.some.inj e))).trans (Below.heap_alloc _ _ _ hb)
                have K4 : ∀ (v : Value) b, b ≠ tb → (w4.setCell ⟨tb, 3, none⟩ v).heap[b]? = w4.heap[b]? := fun v b hn => Below.heap_setCell _ _ _ _ hn
                have hz0 := hB.size
                have KN : ∀ (v : Value) b, w.heap.size ≤ b → b < wc.heap.size → b ≠ sb → (w4.setCell ⟨tb, 3, none⟩ v).heap[b]? = wc.heap[b]? := fun v b h1 h2 h3 =>
                  (K4 v b (by omega)).trans ((K3 b (by omega) (by omega)).trans ((K2 b (by omega) (by omega)).trans (K1 b h2 h3)))
                have KO : ∀ (v : Value) b, b < w.heap.size → b ≠ tb → b ≠ L.vb → b ≠ L.cb k → (w4.setCell ⟨tb, 3, none⟩ v).heap[b]? = w.heap[b]? := fun v b h1 h2 h3 h4 =>
                  (K4 v b h2).trans ((K3 b (by omega) h3).trans ((K2 b (by omega) h4).trans ((K1 b (by omega) (by omega)).trans (K0 b h1))))
                have hT' : WF deep (T ++ [(ksOf T k ++ [z], (k : Int))]) := by have q := TI.wf.add (fan := fan) (k : Int) z; rw [EADD.out] at q; exact q
                have hs2b := HS2.out.lt
                have hg4b : g4 = L.vb ∨ g4 = w3.heap.size + 1 := by
                  rcases HA4.out with h | h
                  · exact .inl (Option.some.inj h).symm
                  · exact .inr h
                have hg4t : g4 ≠ tb := by
                  rcases hg4b with h | h
                  · rw [h]; exact Ne.symm TVB.out
                  · omega
                refine ⟨by first | rfl | rw [E3.out], ⟨fun b => B b ∨ w.heap.size ≤ b ∧ b < (w4.setCell ⟨tb, 3, none⟩ (.slice (some ⟨g4, 0, none⟩) (l3 + 1) c4)).heap.size, tree_grow TI k hk' z HM.out hT' HKID.out _ yb sb cb g4 c4 va (by simp; omega) (KO _) ?_ ?_ ?_ ?_ ?_ ?_ ?_ hne f1 f2 f3 f4 ?_, ?_, fun b hb => ?_⟩⟩
                · have q := HD4.out.setSame 3 (.slice (some ⟨g4, 0, none⟩) (l3 + 1) c4)
                  rw [E3.out]; exact q
                · have q := ownsRow_of (w' := w4.setCell ⟨tb, 3, none⟩ (.slice (some ⟨g4, 0, none⟩) (l3 + 1) c4)) HO4.out (fun g hg => by cases hg; exact K4 _ _ hg4t)
                  rw [E3.out]; exact q
                · refine (HS3.out.of (w' := w4.setCell ⟨tb, 3, none⟩ (.slice (some ⟨g4, 0, none⟩) (l3 + 1) c4)) ((K4 _ _ (fun e => (TI.kids k hk').blk_ne TI.hd e.symm)).trans (K3 _ HS3.out.lt VNE.out))).congr fun s _ => rfl
                · exact HYB.out.of (KN _ yb f1 HYB.out.lt YNE.out)
                · rw [E1.out]
                  exact HS2.out.of ((K4 _ sb (by omega)).trans ((K3 sb (by omega) (by omega)).trans (K2 sb hs2b (by omega))))
                · exact HCB.out.of (KN _ cb f3 HCB.out.lt hne)
                · exact ownsRow_of HVA.out fun q hq => KN _ q (f4 q hq) (HVA.out.lt q hq).2 (VANE.out q hq)
                · rcases hg4b with h | h
                  · exact .inl h
                  · right; omega
                · exact ⟨HG4.out.os.trans (HG3.out.os.trans (HG2.out.os.trans hB.os)), HG4.out.tape.trans (HG3.out.tape.trans (HG2.out.tape.trans hB.tape)), HG4.out.output.trans (HG3.out.output.trans (HG2.out.output.trans hB.output)), by simp; omega,
                    fun b hb hnb => KO _ b hb (fun e => hnb (e ▸ TI.ownT)) (fun e => hnb (e ▸ TI.ownV)) (fun e => hnb (e ▸ (TI.ownN k hk').2.2.1))⟩
                · rcases hb with hb | hb
                  · exact .inl hb
                  · exact .inr hb.1
      · have e : addM deep fan T k z = ⟨j, true, T⟩ := by unfold addM; rw [if_neg hi]; dsimp only; rw [if_neg (show ¬ z ∈ (T.getD (k : Int).toNat ([], 0)).1 by rw [Int.toNat_natCast]; exact hm), hkid]
        rw [e]
        rw [hkid] at lk2
        have G := Lib.hid (Grown1.same HT.out)
        clear hi e hm h hkid
        generalize (slotOf (ksOf T k) z).getD 0 = m at *
        go_enter Try.func28, Try.ntmps28
        go_wp2_with (go_at_call 103; refine H.out.mono ?_; rintro e w' ⟨rfl, rfl⟩)
        go_ret2
        exact ⟨rfl, G.out⟩
end
end Go.Proofs.Ytmjfmfelbmbniaa

/- Layer 12: a new tree. -/
namespace Go.Proofs.Ytmjfmfelbmbniaa
open Go.RowKit Go.Maps HK ShM
set_option linter.unusedVariables false
set_option linter.unusedSimpArgs false
attribute [local go_sem ↓] run_max_two run_min_two
theorem bound_calls (n : Int) (w : World) : Calls Try.prog 118 #[.int .i64 n] w fun e w' => e = .returned (.int .i64 (min (max n 0) 64)) ∧ w = w' := by
  go_enter Try.func118, Try.ntmps118
  go_wp2
  go_ret
  exact ⟨rfl, rfl⟩
theorem wf_u64n (m : Nat) (h : m < 2 ^ 64) : (Lit.int .u64 (m : Int)).wf = true := by
  simp [Lit.wf, IntKind.min, IntKind.max, IntKind.bits, IntKind.signed]
  omega
theorem take_succ' (l : List ByteArray) (k : Nat) (h : k < l.length) : l.take (k + 1) = l.take k ++ [l[k]] := by
  rw [List.take_succ_eq_append_getElem h]
theorem mark_step (l : List ByteArray) (k : Nat) (h : k < l.length) (h64 : k < 64) :
    bits .or .u64 ((bitsOf (l.take k) fun m => decide (m = l[k]) : Nat) : Int) (IntKind.u64.wrap (2 ^ k)) = ((bitsOf (l.take (k + 1)) fun m => decide (m = l[k]) : Nat) : Int) := by
  have h1 : (2 : Nat) ^ k < 2 ^ 64 := Nat.pow_lt_pow_right (by decide) h64
  have h2 : IntKind.u64.wrap (2 ^ k) = ((2 ^ k : Nat) : Int) := by
    have e : ((2 : Int) ^ k) = ((2 ^ k : Nat) : Int) := by simp
    rw [e]
    generalize 2 ^ k = p at h1
    simp [IntKind.wrap, IntKind.bits, IntKind.signed]
    omega
  have hlen : (l.take k).length = k := by rw [List.length_take]; omega
  have h3 : bitsOf (l.take k) (fun m => decide (m = l[k])) < 2 ^ k := by have := bitsOf_lt (l.take k) (fun m => decide (m = l[k])); rwa [hlen] at this
  rw [h2, bits_or_u64_nat _ _ (by omega) (by omega), take_succ' l k h, bitsOf_snoc, hlen]
  have h4 := Nat.two_pow_add_eq_or_of_lt h3 1
  rw [Nat.mul_one] at h4
  rw [Nat.or_comm, ← h4]
  simp
  omega
theorem markF_step (l : List ByteArray) (k : Nat) (h : k < l.length) (s : ByteArray) :
    markF (l.take (k + 1)) s = if s = l[k] then some ((bitsOf (l.take (k + 1)) fun m => decide (m = l[k]) : Nat) : Int) else markF (l.take k) s := by
  unfold markF
  rw [take_succ' l k h]
  by_cases e : s = l[k]
  · subst e; rw [if_pos rfl, if_pos (List.mem_append.2 (.inr (List.mem_singleton.2 rfl)))]
  · rw [if_neg e]
    have hm : s ∈ l.take k ++ [l[k]] ↔ s ∈ l.take k := by simp only [List.mem_append, List.mem_singleton, e, or_false]
    by_cases hs : s ∈ l.take k
    · rw [if_pos (hm.2 hs), if_pos hs, bitsOf_snoc]
      simp [Ne.symm e]
    · rw [if_neg (fun h => hs (hm.1 h)), if_neg hs]
/-- The first shapes of a tree. -/
def T0 : List Sh := [([], -1)]
theorem tree_first {W : World} {B : Nat → Prop} {deep fan : Int} {names : List ByteArray} (hd0 : 0 ≤ deep) (hd : deep ≤ 64) (hf0 : 0 ≤ fan) (hf : fan ≤ 64) (hnm : names.length ≤ 64) {tb mb vb nb sb cb cap : Nat}
    (h1 : Blk W tb 179 [.int .i64 deep, .int .i64 fan, .map (some mb), .slice (some ⟨vb, 0, none⟩) 1 cap]) (h2 : ∃ n, MI Try.prog 9 38 .u64 W mb n (markF names))
    (h3 : W.ownsRow 0 171 1 (.slice (some ⟨vb, 0, none⟩) 1 cap) 1 [.pointer (some ⟨nb, 0, none⟩)]) (h4 : Blk W nb 175 [.slice none 0 0, .map (some sb), .map (some cb), .int .u64 0])
    (h5 : MI Try.prog 9 3 .i64 W sb 0 (fun _ => none)) (h6 : MI Try.prog 9 3 .i64 W cb 0 (fun _ => none)) (h7 : cb ≠ sb) (h8 : cb ≠ mb)
    (o1 : B tb) (o2 : B mb) (o3 : B vb) (o4 : B nb) (o5 : B sb) (o6 : B cb) (hlt : ∀ b, B b → b < W.heap.size) : TreeAt W B tb deep fan names T0 := by
  have hk : ∀ i, i < T0.length → ksOf T0 i = [] := by intro i hi; simp [T0] at hi; subst hi; rfl
  have hm0 : marksOf names [] = 0 := bitsOf_zero (by simp)
  refine ⟨{ mb := mb, vb := vb, cap := cap, nb := fun _ => nb, kv := fun _ => .slice none 0 0, sb := fun _ => sb, cb := fun _ => cb }, ?_⟩
  exact {
    hd := h1
    mrk := h2
    row := by simpa [T0] using h3
    node := fun i hi => by rw [hk i hi, hm0]; exact h4
    keys := fun i hi => by rw [hk i hi]; exact World.ownsRow_nil _ _ _ _
    slots := fun i hi => by rw [hk i hi]; exact h5.congr fun s _ => rfl
    kids := fun i hi => by
      have e : kidCount T0 i = 0 := kidCount_none (by intro x hx; simp [T0] at hx; subst hx; dsimp only; omega)
      rw [e]
      refine h6.congr fun s _ => ?_
      unfold kidF
      rw [kidFrom_none_of (by intro x hx; simp [T0] at hx; subst hx; dsimp only; omega)]; rfl
    inj := fun i j hi hj _ => by simp [T0] at hi hj; omega
    cs := fun _ _ _ _ => h7
    cm := fun _ _ => h8
    wf := by
      refine ⟨by decide, by decide, hd0, hd, rfl, ?_, ?_, ?_, ?_⟩
      all_goals
        intro i hi
        simp [T0] at hi
        subst hi
      · show ((0 : Nat) : Int) ≤ deep; omega
      · exact List.nodup_nil
      · show (-1 : Int) < 0; omega
      · intro p hp; have hp : (-1 : Int) = p := hp; omega
    fan0 := hf0
    fan64 := hf
    nm := hnm
    ownT := o1
    ownM := o2
    ownV := o3
    ownN := fun _ _ => ⟨o4, o5, o6, fun g hg => by cases hg⟩
    lt := hlt }
set_option maxHeartbeats 2000000 in
set_option maxRecDepth 20000 in
theorem new_calls (deep fan : Int) (v : Value) (l : List ByteArray) (w : World) (h : RdS w v l) (hl : ∀ s ∈ l, s.size ≤ maxLen) :
    Calls Try.prog 61 #[.int .i64 deep, .int .i64 fan, v] w fun e w' => ∃ tb B, e = .returned (.pointer (some ⟨tb, 0, none⟩)) ∧ TreeAt w' B tb (min (max deep 0) 64) (min (max fan 0) 64) (l.take 64) T0 ∧ (∀ b, B b → w.heap.size ≤ b) ∧ Below w.heap.size w w' := by
  obtain ⟨a, c, rfl, hlc, hcm, hcell⟩ := h
  have HC := Lib.hid hcell
  have hmm := @run_makeMap Try.prog
  have hcm' : c ≤ 9223372036854775807 := hcm
  obtain ⟨n, hn⟩ : ∃ n, n = (l.take 64).length := ⟨_, rfl⟩
  have hn1 : n ≤ 64 := by rw [hn, List.length_take]; omega
  have hn2 : n ≤ l.length := by rw [hn, List.length_take]; omega
  have hmin : min (l.length : Int) 64 = (n : Int) := by rw [hn, List.length_take]; omega
  have hmax : max (n : Int) 0 = (n : Int) := by omega
  have HN := Lib.hid hn
  clear hcell hcm hn
  go_enter Try.func61, Try.ntmps61
  go_wp2_with (go_at_call 118; refine (bound_calls _ _).mono ?_; rintro e w' ⟨rfl, rfl⟩)
  go_loopw [23] (fun i wr => ∃ k cnt : Nat, k ≤ n ∧ cnt ≤ k ∧ i = .int .i64 k ∧ Hid (Blk wr (w.heap.size + 1) 179 [.int .i64 (min (max deep 0) 64), .int .i64 (min (max fan 0) 64), .map (some w.heap.size), .slice none 0 0] ∧ MI Try.prog 9 38 .u64 wr w.heap.size cnt (markF (l.take k)) ∧ Below w.heap.size w wr)) (fun i _ => n - (intOf i).toNat)
  case atStart =>
    refine ⟨0, 0, Nat.zero_le _, Nat.le_refl _, rfl, Lib.hid ⟨?_, ?_, ?_⟩⟩
    · have := Blk.new (w.alloc (.map #[] 0)) [.int .i64 (min (max deep 0) 64), .int .i64 (min (max fan 0) 64), .map (some w.heap.size), .slice none 0 0] 179
      simpa using this
    · have h0 : MI Try.prog 9 38 .u64 (w.alloc (.map #[] 0)) w.heap.size 0 (fun _ => none) := MI.made w
      refine (h0.of (Below.heap_alloc _ _ _ (by simp))).congr fun s _ => ?_
      simp [markF]
    · exact ((Below.refl _ _).alloc (Nat.le_refl _) _).alloc (by simp) _
  case round =>
    obtain ⟨k, cnt, hk, hck, rfl, HR⟩ := hrel
    by_cases hlt : k < n
    · have c2 := HR.out.1.cell 2 _ rfl
      have hkl : k < l.length := by omega
      obtain ⟨b, off, rfl, hcl⟩ := HC.out k l[k] (List.getElem?_eq_getElem hkl)
      have hb := World.block_lt_of_cell? w _ hcl
      have c9 : wr.cell? ⟨b, off + k, none⟩ = some (.string l[k]) := (HR.out.2.2.cell hb).trans hcl
      have lk := (HR.out.2.1.of (w' := wr.drew) rfl).look law9 Try.underlying9 Try.underlying176 Try.underlying38 (zero38 wr.drew) l[k] (hl _ (List.getElem_mem _))
      rw [markF_getD] at lk
      have hor := mark_step l k hkl (by omega)
      have hst := markF_step l k hkl
      have hlt64 : bitsOf (l.take (k + 1)) (fun m => decide (m = l[k])) < 2 ^ 64 := Nat.lt_of_lt_of_le (bitsOf_lt _ _) (Nat.pow_le_pow_right (by decide) (by rw [List.length_take]; omega))
      obtain ⟨w2, hrun, hmi, hg⟩ := (HR.out.2.1.of (w' := wr.drew) rfl).store law9 Try.underlying9 Try.underlying176 Try.underlying38 (by unfold maxLen; omega) l[k] (hl _ (List.getElem_mem _)) ((bitsOf (l.take (k + 1)) fun m => decide (m = l[k]) : Nat) : Int) (wf_u64n _ hlt64)
      have HM : Hid (MI Try.prog 9 38 .u64 w2 w.heap.size (if (markF (l.take k) l[k]).isSome then cnt else cnt + 1) (markF (l.take (k + 1)))) := Lib.hid (hmi.congr fun s _ => (hst s).symm)
      have HG := Lib.hid hg
      clear hmi hg hst hlt64
      generalize ((bitsOf (l.take (k + 1)) fun m => decide (m = l[k]) : Nat) : Int) = m2 at *
      generalize ((bitsOf (l.take k) fun m => decide (m = l[k]) : Nat) : Int) = m1 at *
      generalize l[k] = s at *
      clear hb hcl
      go_wp2
      go_still_tail 9, (by kernel_rfl)
      go_wp2
      go_roundw
      case rel =>
        refine ⟨k + 1, (if (markF (l.take k) s).isSome then cnt else cnt + 1), by omega, by split <;> omega, by go_num, Lib.hid ⟨?_, HM.out, ?_⟩⟩
        · exact HR.out.1.of (HG.out.block _ HR.out.1.lt (fun e => by simp at e))
        · exact (HR.out.2.2.drew).grown HG.out HR.out.2.2.size (fun q hq => by cases hq; exact Nat.le_refl _)
      case measure => simp [intOf]; omega
    · obtain rfl : k = n := by omega
      have z3 : ∀ o1 o2 o3 o4, ((((wr.alloc o1).alloc o2).alloc o3).alloc o4).cell? ⟨w.heap.size + 1, 3, none⟩ = some (.slice none 0 0) := fun o1 o2 o3 o4 => ((((HR.out.1.alloc o1).alloc o2).alloc o3).alloc o4).cell 3 _ rfl
      have f3 : ∀ o1 o2 o3 o4, ((((wr.alloc o1).alloc o2).alloc o3).alloc o4).frozen? ⟨w.heap.size + 1, 3, none⟩ = false := fun o1 o2 o3 o4 => ((((HR.out.1.alloc o1).alloc o2).alloc o3).alloc o4).frozen 3
      have q : ∀ o1 o2 o3 o4 o5 (s : ByteArray), ((((wr.alloc o1).alloc o2).alloc o3).alloc o4).heap[w.heap.size]? = wr.heap[w.heap.size]? := fun o1 o2 o3 o4 o5 s => by
        have h2 := HR.out.2.1.lt
        rw [Below.heap_alloc _ _ _ (by simp <;> omega), Below.heap_alloc _ _ _ (by simp <;> omega), Below.heap_alloc _ _ _ (by simp <;> omega), Below.heap_alloc _ _ _ h2]
      have HQ := Lib.hid q
      clear q
      go_wp2
      go_ret
      have hb2 := HR.out.2.1.lt
      have hb1 := HR.out.1.lt
      have hB := HR.out.2.2
      have hbl := (((HR.out.1.alloc (.map #[] 0)).alloc (.map #[] 0)).alloc (.cells #[.slice none 0 0, .map (some wr.heap.size), .map (some (wr.heap.size + 1)), .int .u64 0] 175)).alloc (.cells #[.pointer (some ⟨wr.heap.size + 1 + 1, 0, none⟩)] 171)
      have hset := hbl.setSame 3 (.slice (some ⟨wr.heap.size + 1 + 1 + 1, 0, none⟩) 1 1)
      have m1 : MI Try.prog 9 3 .i64 (wr.alloc (.map #[] 0)) wr.heap.size 0 (fun _ => none) := MI.made wr
      have m2 : MI Try.prog 9 3 .i64 ((wr.alloc (.map #[] 0)).alloc (.map #[] 0)) (wr.heap.size + 1) 0 (fun _ => none) := by have := MI.made (P := Try.prog) (k := 9) (e := 3) (q := .i64) (wr.alloc (.map #[] 0)); simpa using this
      have n1 : Blk (((wr.alloc (.map #[] 0)).alloc (.map #[] 0)).alloc (.cells #[.slice none 0 0, .map (some wr.heap.size), .map (some (wr.heap.size + 1)), .int .u64 0] 175)) (wr.heap.size + 1 + 1) 175 [.slice none 0 0, .map (some wr.heap.size), .map (some (wr.heap.size + 1)), .int .u64 0] := by
        have := Blk.new ((wr.alloc (.map #[] 0)).alloc (.map #[] 0)) [.slice none 0 0, .map (some wr.heap.size), .map (some (wr.heap.size + 1)), .int .u64 0] 175; simpa using this
      have n2 : Blk ((((wr.alloc (.map #[] 0)).alloc (.map #[] 0)).alloc (.cells #[.slice none 0 0, .map (some wr.heap.size), .map (some (wr.heap.size + 1)), .int .u64 0] 175)).alloc (.cells #[.pointer (some ⟨wr.heap.size + 1 + 1, 0, none⟩)] 171)) (wr.heap.size + 1 + 1 + 1) 171 [.pointer (some ⟨wr.heap.size + 1 + 1, 0, none⟩)] := by
        have := Blk.new (((wr.alloc (.map #[] 0)).alloc (.map #[] 0)).alloc (.cells #[.slice none 0 0, .map (some wr.heap.size), .map (some (wr.heap.size + 1)), .int .u64 0] 175)) [.pointer (some ⟨wr.heap.size + 1 + 1, 0, none⟩)] 171; simpa using this
      have hsz4 : ((((wr.alloc (.map #[] 0)).alloc (.map #[] 0)).alloc (.cells #[.slice none 0 0, .map (some wr.heap.size), .map (some (wr.heap.size + 1)), .int .u64 0] 175)).alloc (.cells #[.pointer (some ⟨wr.heap.size + 1 + 1, 0, none⟩)] 171)).heap.size = wr.heap.size + 4 := by simp
      have e3 : ∀ b, b < wr.heap.size → ((((wr.alloc (.map #[] 0)).alloc (.map #[] 0)).alloc (.cells #[.slice none 0 0, .map (some wr.heap.size), .map (some (wr.heap.size + 1)), .int .u64 0] 175)).alloc (.cells #[.pointer (some ⟨wr.heap.size + 1 + 1, 0, none⟩)] 171)).heap[b]? = wr.heap[b]? := fun b hb => by
        rw [Below.heap_alloc _ _ _ (by simp <;> omega), Below.heap_alloc _ _ _ (by simp <;> omega), Below.heap_alloc _ _ _ (by simp <;> omega), Below.heap_alloc _ _ _ hb]
      have m1' := m1.of (w' := ((((wr.alloc (.map #[] 0)).alloc (.map #[] 0)).alloc (.cells #[.slice none 0 0, .map (some wr.heap.size), .map (some (wr.heap.size + 1)), .int .u64 0] 175)).alloc (.cells #[.pointer (some ⟨wr.heap.size + 1 + 1, 0, none⟩)] 171))) (by rw [Below.heap_alloc _ _ _ (by simp <;> omega), Below.heap_alloc _ _ _ (by simp <;> omega), Below.heap_alloc _ _ _ (by simp)])
      have m2' := m2.of (w' := ((((wr.alloc (.map #[] 0)).alloc (.map #[] 0)).alloc (.cells #[.slice none 0 0, .map (some wr.heap.size), .map (some (wr.heap.size + 1)), .int .u64 0] 175)).alloc (.cells #[.pointer (some ⟨wr.heap.size + 1 + 1, 0, none⟩)] 171))) (by rw [Below.heap_alloc _ _ _ (by simp <;> omega), Below.heap_alloc _ _ _ (by simp)])
      have n1' := n1.alloc (.cells #[.pointer (some ⟨wr.heap.size + 1 + 1, 0, none⟩)] 171)
      have hB4 : Below w.heap.size w ((((wr.alloc (.map #[] 0)).alloc (.map #[] 0)).alloc (.cells #[.slice none 0 0, .map (some wr.heap.size), .map (some (wr.heap.size + 1)), .int .u64 0] 175)).alloc (.cells #[.pointer (some ⟨wr.heap.size + 1 + 1, 0, none⟩)] 171)) := (((hB.alloc hB.size _).alloc (by have := hB.size; simp; omega) _).alloc (by have := hB.size; simp; omega) _).alloc (by have := hB.size; simp; omega) _
      generalize ((((wr.alloc (.map #[] 0)).alloc (.map #[] 0)).alloc (.cells #[.slice none 0 0, .map (some wr.heap.size), .map (some (wr.heap.size + 1)), .int .u64 0] 175)).alloc (.cells #[.pointer (some ⟨wr.heap.size + 1 + 1, 0, none⟩)] 171)) = W4 at hset n1' n2 m1' m2' hsz4 e3 hB4 ⊢
      have htk : l.take 64 = l.take k := by rw [List.take_eq_take_iff]; omega
      refine ⟨w.heap.size + 1, fun b => w.heap.size ≤ b ∧ b < (W4.setCell ⟨w.heap.size + 1, 3, none⟩ (.slice (some ⟨wr.heap.size + 1 + 1 + 1, 0, none⟩) 1 1)).heap.size, rfl, tree_first (by omega) (by omega) (by omega) (by omega) (by rw [List.length_take]; omega) hset
        ⟨cnt, by rw [htk]; exact HR.out.2.1.of ((Below.heap_setCell _ _ _ _ (by simp)).trans (e3 _ hb2))⟩ ?_ (n1'.setOther (by show wr.heap.size + 1 + 1 ≠ w.heap.size + 1; omega) _) (m1'.of (Below.heap_setCell _ _ _ _ (by show wr.heap.size ≠ w.heap.size + 1; omega))) (m2'.of (Below.heap_setCell _ _ _ _ (by show wr.heap.size + 1 ≠ w.heap.size + 1; omega)))
        (by omega) (by omega) ?_ ?_ ?_ ?_ ?_ ?_ (fun b hb => hb.2), fun b hb => hb.1, ?_⟩
      · refine ⟨by simp, .inr ⟨_, 1, _, rfl, Nat.zero_le _, n2.setOther (by show wr.heap.size + 1 + 1 + 1 ≠ w.heap.size + 1; omega) _, Nat.le_refl _, by decide, by simp, by simp⟩⟩
      all_goals first | (simp; omega) | skip
      exact hB4.setCell (by show w.heap.size ≤ w.heap.size + 1; omega) _
end Go.Proofs.Ytmjfmfelbmbniaa

/- Layer 12: the statements' own small functions. -/
namespace Go.Proofs.Ytmjfmfelbmbniaa
open Go.RowKit Go.Maps HK ShM
set_option linter.unusedVariables false
set_option linter.unusedSimpArgs false
attribute [local go_sem ↓] run_max_two run_min_two
/-- A slice of steps that is only read. -/
def RdT (w : World) (v : Value) (l : List (Int × ByteArray)) : Prop := ∃ a c, v = .slice a l.length c ∧ l.length ≤ c ∧ c ≤ maxLen ∧ l.length ≤ 140737488355328 ∧ ∀ j x, l[j]? = some x → ∃ b off, a = some ⟨b, off, none⟩ ∧ w.cell? ⟨b, off + j * 2, none⟩ = some (.int .i64 x.1) ∧ w.cell? ⟨b, off + j * 2 + 1, none⟩ = some (.string x.2) ∧ x.2.size ≤ maxLen
theorem RdT.below {w w' : World} {v : Value} {l : List (Int × ByteArray)} {N : Nat} (h : RdT w v l) (hb : Below N w w') (hN : w.heap.size ≤ N) : RdT w' v l := by
  obtain ⟨a, c, rfl, h1, h2, h20, h3⟩ := h
  refine ⟨a, c, rfl, h1, h2, h20, fun j s hj => ?_⟩
  obtain ⟨b, off, rfl, hc, hd, he⟩ := h3 j s hj
  exact ⟨b, off, rfl, (hb.cell (Nat.lt_of_lt_of_le (World.block_lt_of_cell? w _ hc) hN)).trans hc, (hb.cell (Nat.lt_of_lt_of_le (World.block_lt_of_cell? w _ hd) hN)).trans hd, he⟩
theorem str_ne (a b : ByteArray) (h : a ≠ b) : (a.toList == b.toList) = false := by
  rw [beq_eq_false_iff_ne]
  intro e
  apply h
  have h2 : a.data = b.data := by
    have h3 : a.data.toList = b.data.toList := by simpa [ByteArray.toList_eq] using e
    rw [← Array.toArray_toList (xs := a.data), h3]
  cases a; cases b; simp_all
end Go.Proofs.Ytmjfmfelbmbniaa

/- Layer 12: a tree as the statements make it, and the document's example. -/
namespace Go.Proofs.Ytmjfmfelbmbniaa
open Go.RowKit Go.Maps HK ShM
set_option linter.unusedVariables false
set_option linter.unusedSimpArgs false
/-- A tree of the call's own, made since the world was w0. -/
def TB (w0 w : World) (tb : Nat) (deep fan : Int) (names : List ByteArray) (T : List Sh) : Prop := ∃ B, TreeAt w B tb deep fan names T ∧ (∀ b, B b → w0.heap.size ≤ b) ∧ Below w0.heap.size w0 w
section
variable {w0 w w' : World} {tb : Nat} {deep fan : Int} {names : List ByteArray} {T : List Sh}
theorem TB.bel (h : TB w0 w tb deep fan names T) : Below w0.heap.size w0 w := h.choose_spec.2.2
theorem TB.below (h : TB w0 w tb deep fan names T) (hb : Below w.heap.size w w') : TB w0 w' tb deep fan names T := by
  obtain ⟨B, h1, h2, h3⟩ := h
  exact ⟨B, h1.below hb, h2, h3.trans (hb.mono h3.size)⟩
theorem TB.alloc (h : TB w0 w tb deep fan names T) (o : Obj) : TB w0 (w.alloc o) tb deep fan names T := h.below ((Below.refl _ _).alloc (Nat.le_refl _) _)
theorem TB.drewN (h : TB w0 w tb deep fan names T) (n : Nat) : TB w0 (w.drewN n) tb deep fan names T := h.below ⟨rfl, rfl, rfl, Nat.le_refl _, fun _ _ => rfl⟩
theorem TB.wf (h : TB w0 w tb deep fan names T) : WF deep T := by obtain ⟨B, ⟨L, h1⟩, _⟩ := h; exact h1.wf
theorem TB.add (h : TB w0 w tb deep fan names T) (i : Int) (z : ByteArray) (hz : z.size ≤ maxLen) : Calls Try.prog 28 #[.pointer (some ⟨tb, 0, none⟩), .int .i64 i, .string z] w fun e w' =>
    e = .returned (.tuple #[.int .i64 (addM deep fan T i z).r, .bool (addM deep fan T i z).ok]) ∧ TB w0 w' tb deep fan names (addM deep fan T i z).T := by
  obtain ⟨B, h1, h2, h3⟩ := h
  refine (add_calls h1 i z hz).mono ?_
  rintro e w' ⟨rfl, ⟨B', g1, g2, g3⟩⟩
  exact ⟨rfl, B', g1, fun b hb => by rcases g3 b hb with h | h; exact h2 b h; exact Nat.le_trans h3.size h, h3.trans (g2.below h3.size h2)⟩
theorem TB.len (h : TB w0 w tb deep fan names T) : Calls Try.prog 29 #[.pointer (some ⟨tb, 0, none⟩)] w fun e w' => e = .returned (.int .i64 T.length) ∧ w = w' := len_calls h.choose_spec.1
theorem TB.marks (h : TB w0 w tb deep fan names T) (i : Int) : Calls Try.prog 31 #[.pointer (some ⟨tb, 0, none⟩), .int .i64 i] w fun e w' => e = .returned (.int .u64 (marksM names T i)) ∧ w = w' := marks_calls h.choose_spec.1 i
theorem TB.slot (h : TB w0 w tb deep fan names T) (i : Int) (s : ByteArray) (hs : s.size ≤ maxLen) : Calls Try.prog 34 #[.pointer (some ⟨tb, 0, none⟩), .int .i64 i, .string s] w fun e w' =>
    e = .returned (.tuple #[.int .i64 ((slotM T i s).getD 0 : Nat), .bool (slotM T i s).isSome]) ∧ w = w' := slot_calls h.choose_spec.1 i s hs
theorem TB.keys (h : TB w0 w tb deep fan names T) (i : Int) : Calls Try.prog 30 #[.pointer (some ⟨tb, 0, none⟩), .int .i64 i] w fun e w' => ∃ v, e = .returned v ∧ NewStrs w w' v (keysM T i) ∧ TB w0 w' tb deep fan names T := by
  refine (keys_calls h.choose_spec.1 i).mono ?_
  rintro e w' ⟨v, rfl, hv⟩
  exact ⟨v, rfl, hv, h.below hv.2.2⟩
end
/-- A tree of the call's own, made since the world was w0, apart from the blocks X. -/
def TBX (X : Nat → Prop) (w0 w : World) (tb : Nat) (deep fan : Int) (names : List ByteArray) (T : List Sh) : Prop := ∃ B, TreeAt w B tb deep fan names T ∧ (∀ b, B b → w0.heap.size ≤ b ∧ ¬ X b) ∧ Below w0.heap.size w0 w
section
variable {X Y : Nat → Prop} {w0 w w' : World} {tb : Nat} {deep fan : Int} {names : List ByteArray} {T : List Sh}
theorem TBX.bel (h : TBX X w0 w tb deep fan names T) : Below w0.heap.size w0 w := h.choose_spec.2.2
theorem TBX.toTB (h : TBX X w0 w tb deep fan names T) : TB w0 w tb deep fan names T := by obtain ⟨B, h1, h2, h3⟩ := h; exact ⟨B, h1, fun b hb => (h2 b hb).1, h3⟩
theorem TBX.wf (h : TBX X w0 w tb deep fan names T) : WF deep T := h.toTB.wf
theorem TB.x (h : TB w0 w tb deep fan names T) : TBX (fun _ => False) w0 w tb deep fan names T := by obtain ⟨B, h1, h2, h3⟩ := h; exact ⟨B, h1, fun b hb => ⟨h2 b hb, fun h => h⟩, h3⟩
theorem TBX.weak (h : TBX X w0 w tb deep fan names T) (hY : ∀ b, Y b → X b ∨ w.heap.size ≤ b) : TBX Y w0 w tb deep fan names T := by
  obtain ⟨B, h1, h2, h3⟩ := h
  refine ⟨B, h1, fun b hb => ⟨(h2 b hb).1, fun hy => ?_⟩, h3⟩
  rcases hY b hy with h | h
  · exact (h2 b hb).2 h
  · obtain ⟨L, h1⟩ := h1; have := h1.lt b hb; omega
theorem TBX.below (h : TBX X w0 w tb deep fan names T) (hb : Below w.heap.size w w') : TBX X w0 w' tb deep fan names T := by
  obtain ⟨B, h1, h2, h3⟩ := h
  exact ⟨B, h1.below hb, h2, h3.trans (hb.mono h3.size)⟩
theorem TBX.alloc (h : TBX X w0 w tb deep fan names T) (o : Obj) : TBX X w0 (w.alloc o) tb deep fan names T := h.below ((Below.refl _ _).alloc (Nat.le_refl _) _)
/-- A row of X is written; the tree is what it was. -/
theorem TBX.written (h : TBX X w0 w tb deep fan names T) {row : Option Nat} (hg : w.grownBy w' row) (hr : ∀ g, row = some g → w0.heap.size ≤ g ∧ X g) : TBX X w0 w' tb deep fan names T := by
  obtain ⟨B, h1, h2, h3⟩ := h
  refine ⟨B, h1.of hg.size fun b hb => hg.block b ?_ ?_, h2, h3.grown hg h3.size fun k hk => (hr k hk).1⟩
  · obtain ⟨L, h1⟩ := h1; exact h1.lt b hb
  · intro e; exact (h2 b hb).2 (hr b e.symm).2
theorem TBX.add (h : TBX X w0 w tb deep fan names T) (hX : ∀ b, X b → b < w.heap.size) (i : Int) (z : ByteArray) (hz : z.size ≤ maxLen) : Calls Try.prog 28 #[.pointer (some ⟨tb, 0, none⟩), .int .i64 i, .string z] w fun e w' =>
    e = .returned (.tuple #[.int .i64 (addM deep fan T i z).r, .bool (addM deep fan T i z).ok]) ∧ TBX X w0 w' tb deep fan names (addM deep fan T i z).T ∧ w.heap.size ≤ w'.heap.size ∧ ∀ b, X b → w'.heap[b]? = w.heap[b]? := by
  obtain ⟨B, h1, h2, h3⟩ := h
  refine (add_calls h1 i z hz).mono ?_
  rintro e w' ⟨rfl, ⟨B', g1, g2, g3⟩⟩
  refine ⟨rfl, ⟨B', g1, fun b hb => ?_, h3.trans (g2.below h3.size (fun b hb => (h2 b hb).1))⟩, g2.size, fun b hb => g2.block b (hX b hb) (fun hB => (h2 b hB).2 hb)⟩
  rcases g3 b hb with h | h
  · exact h2 b h
  · exact ⟨Nat.le_trans h3.size h, fun hx => by have := hX b hx; omega⟩
end
/-- No block of a tree holds cells of another type than these. -/
def treeTy (t : TypeId) : Bool := t == 179 || t == 171 || t == 175 || t == 9
theorem TreeAt.tight {w : World} {B : Nat → Prop} {tb : Nat} {deep fan : Int} {names : List ByteArray} {T : List Sh} (h : TreeAt w B tb deep fan names T) :
    ∃ B', TreeAt w B' tb deep fan names T ∧ (∀ b, B' b → B b) ∧ ∀ b, B' b → (∃ cs t, treeTy t = true ∧ w.heap[b]? = some (.cells cs t (0, 0))) ∨ ∃ es c, w.heap[b]? = some (.map es c) := by
  obtain ⟨L, h⟩ := h
  refine ⟨fun b => b = tb ∨ b = L.mb ∨ b = L.vb ∨ ∃ i, i < T.length ∧ (b = L.nb i ∨ b = L.sb i ∨ b = L.cb i ∨ (L.kv i).ownBlock = some b), ⟨L, { h with ownT := .inl rfl, ownM := .inr (.inl rfl), ownV := .inr (.inr (.inl rfl)), ownN := fun i hi => ⟨.inr (.inr (.inr ⟨i, hi, .inl rfl⟩)), .inr (.inr (.inr ⟨i, hi, .inr (.inl rfl)⟩)), .inr (.inr (.inr ⟨i, hi, .inr (.inr (.inl rfl))⟩)), fun g hg => .inr (.inr (.inr ⟨i, hi, .inr (.inr (.inr hg))⟩))⟩, lt := ?_ }⟩, ?_, ?_⟩
  · rintro b (rfl | rfl | rfl | ⟨i, hi, rfl | rfl | rfl | hg⟩)
    · exact h.lt _ h.ownT
    · exact h.lt _ h.ownM
    · exact h.lt _ h.ownV
    · exact h.lt _ (h.ownN i hi).1
    · exact h.lt _ (h.ownN i hi).2.1
    · exact h.lt _ (h.ownN i hi).2.2.1
    · exact h.lt _ ((h.ownN i hi).2.2.2 b hg)
  · rintro b (rfl | rfl | rfl | ⟨i, hi, rfl | rfl | rfl | hg⟩)
    · exact h.ownT
    · exact h.ownM
    · exact h.ownV
    · exact (h.ownN i hi).1
    · exact (h.ownN i hi).2.1
    · exact (h.ownN i hi).2.2.1
    · exact (h.ownN i hi).2.2.2 b hg
  · rintro b (rfl | rfl | rfl | ⟨i, hi, rfl | rfl | rfl | hg⟩)
    · exact .inl ⟨_, 179, rfl, h.hd⟩
    · obtain ⟨n, hm⟩ := h.mrk; exact .inr hm.obj
    · rcases h.row.2 with ⟨q, _⟩ | ⟨g0, c0, cur, q, _, q3, _⟩
      · cases q
      · cases q; exact .inl ⟨cur, 171, rfl, q3⟩
    · exact .inl ⟨_, 175, rfl, h.node i hi⟩
    · exact .inr (h.slots i hi).obj
    · exact .inr (h.kids i hi).obj
    · rcases (h.keys i hi).2 with ⟨q, _⟩ | ⟨g0, c0, cur, q, _, q3, _⟩
      · rw [q] at hg; cases hg
      · rw [q] at hg; cases hg; exact .inl ⟨cur, 9, rfl, q3⟩
/-- A row of another type is written; the tree is what it was. -/
theorem TB.written {w0 w w' : World} {tb : Nat} {deep fan : Int} {names : List ByteArray} {T : List Sh} (h : TB w0 w tb deep fan names T) {row : Option Nat} (hg : w.grownBy w' row) (hr : ∀ g, row = some g → w0.heap.size ≤ g ∧ ∃ cs t fr, treeTy t = false ∧ w.heap[g]? = some (.cells cs t fr)) : TB w0 w' tb deep fan names T := by
  obtain ⟨B, h1, h2, h3⟩ := h
  obtain ⟨B', g1, g2, g3⟩ := h1.tight
  refine ⟨B', g1.of hg.size fun b hb => hg.block b ?_ ?_, fun b hb => h2 b (g2 b hb), h3.grown hg h3.size fun k hk => (hr k hk).1⟩
  · obtain ⟨L, g1⟩ := g1; exact g1.lt b hb
  · intro e
    obtain ⟨_, cs, t, fr, q1, q2⟩ := hr b e.symm
    rcases g3 b hb with ⟨cs', t', q3, q4⟩ | ⟨es, c, q4⟩
    · rw [q2] at q4; simp at q4; rw [q4.2.1] at q1; rw [q1] at q3; cases q3
    · rw [q2] at q4; cases q4
abbrev bx : ByteArray := ⟨#[120]⟩
abbrev by_ : ByteArray := ⟨#[121]⟩
def T2 : List Sh := [([], -1), ([bx], 0), ([bx, by_], 1)]
end Go.Proofs.Ytmjfmfelbmbniaa

/- The law ShapeStays: a shape that there is never changes. -/
namespace Go.Proofs.Ytmjfmfelbmbniaa
open Go.RowKit Go.Maps HK ShM
set_option linter.unusedVariables false
set_option linter.unusedSimpArgs false
attribute [local go_sem ↓] run_max_two run_min_two
theorem Below.drewN {B : Nat} {a w : World} (h : Below B a w) (n : Nat) : Below B a (w.drewN n) := ⟨h.os, h.tape, h.output, h.size, h.block⟩
theorem Strs.written {w w' : World} {v : Value} {ks : List ByteArray} (h : Strs w v ks) {row : Option Nat} (hg : w.grownBy w' row) (hr : ∀ g, row = some g → ∃ cs t fr, t ≠ 9 ∧ w.heap[g]? = some (.cells cs t fr)) : Strs w' v ks :=
  ownsRow_of h fun g hv => hg.block g (h.lt g hv).2 fun e => by
    obtain ⟨cs, t, fr, q1, q2⟩ := hr g e.symm
    rcases h.2 with ⟨q, _⟩ | ⟨g0, c0, cur, q, _, q3, _⟩
    · rw [q] at hv; cases hv
    · rw [q] at hv; cases hv
      have q3' : w.heap[g0]? = _ := q3
      rw [show w.heap[g0]? = _ from q2] at q3'
      simp at q3'
      exact q1 q3'.2.1
theorem ownsRow_typed {w : World} {base : Nat} {e : TypeId} {size : Nat} {v : Value} {n : Nat} {xs : List Value} (h : w.ownsRow base e size v n xs) (g : Nat) (hg : v.ownBlock = some g) : ∃ cs fr, w.heap[g]? = some (.cells cs e fr) := by
  rcases h.2 with ⟨q, _⟩ | ⟨g0, c0, cur, q, _, q3, _⟩
  · rw [q] at hg; cases hg
  · rw [q] at hg; cases hg; exact ⟨_, _, q3⟩
theorem ownsRow_form {w : World} {base : Nat} {e : TypeId} {size : Nat} {v : Value} {n : Nat} {xs : List Value} (h : w.ownsRow base e size v n xs) : ∃ a c, v = .slice a n c := by
  rcases h.2 with ⟨rfl, rfl⟩ | ⟨g0, c0, cur, rfl, _⟩
  · exact ⟨_, _, rfl⟩
  · exact ⟨_, _, rfl⟩
def XS (kv mv : Value) (vs : List Value) (b : Nat) : Prop := kv.ownBlock = some b ∨ mv.ownBlock = some b ∨ ∃ v ∈ vs, v.ownBlock = some b
/-- What has been collected of the first k shapes: their keys and their marks. -/
structure Acc (w4 wr : World) (tb : Nat) (D F : Int) (nm : List ByteArray) (TT T : List Sh) (kv mv : Value) (vs : List Value) (k : Nat) : Prop where
  tr : TBX (XS kv mv vs) w4 wr tb D F nm T
  kr : wr.ownsRow w4.heap.size 22 1 kv k vs
  st : ∀ (j : Nat) v, vs[j]? = some v → Strs wr v (keysM TT j) ∧ ∀ g, v.ownBlock = some g → w4.heap.size ≤ g
  mr : wr.ownsRow w4.heap.size 38 1 mv k ((List.range k).map fun j : Nat => .int .u64 (marksM nm TT (j : Int)))
theorem Acc.lt {w4 wr : World} {tb : Nat} {D F : Int} {nm : List ByteArray} {TT T : List Sh} {kv mv : Value} {vs : List Value} {k : Nat} (h : Acc w4 wr tb D F nm TT T kv mv vs k) : ∀ b, XS kv mv vs b → b < wr.heap.size := by
  rintro b (hb | hb | ⟨v, hv, hb⟩)
  · exact (h.kr.lt b hb).2
  · exact (h.mr.lt b hb).2
  · obtain ⟨j, hj⟩ := List.getElem?_of_mem hv
    exact ((h.st j v hj).1.lt b hb).2
end Go.Proofs.Ytmjfmfelbmbniaa

/- Values (api.Value) as layers 13 to 16 use them: three fields; what Own and Key make of them. -/
namespace Go.Proofs.Ytmjfmfelbmbniaa
open Go.RowKit Go.Maps HK
set_option linter.unusedVariables false
set_option linter.unusedSimpArgs false
structure Val where
  k : Int
  n : Int
  s : ByteArray
deriving DecidableEq
namespace Val
abbrev v (x : Val) : Value := .agg #[.int .i64 x.k, .int .i64 x.n, .string x.s]
abbrev cells (x : Val) : List Value := [.int .i64 x.k, .int .i64 x.n, .string x.s]
abbrev e : ByteArray := ⟨#[]⟩
abbrev nil : Val := ⟨0, 0, e⟩
abbrev strange (x : Val) : Bool := decide (x.k < 0) || decide (7 < x.k)
def own (x : Val) : Val :=
  if x.k = 1 then ⟨1, if x.n = 0 then 0 else 1, e⟩
  else if x.k = 3 then ⟨3, 0, x.s⟩
  else if x.k = 2 ∨ x.k = 4 ∨ x.k = 5 ∨ x.k = 6 ∨ x.k = 7 then ⟨x.k, x.n, e⟩
  else nil
def bad (x : Val) : Bool := decide (x.k = 0) || x.strange
def lives (x : Val) : Int := if x.k = 0 then 0 else 1
end Val
theorem ofInt_calls (n : Int) (w : World) : Calls Try.prog 50 #[.int .i64 n] w fun e w' => e = .returned (Val.v ⟨2, n, Val.e⟩) ∧ Below w.heap.size w w' := by
  go_enter Try.func50, Try.ntmps50
  go_wp2
  refine bodyPost_ret (v := Val.v ⟨2, n, Val.e⟩) (by simp [results, Try.results50, go_sem]) rfl ⟨rfl, ?_⟩
  (repeat (first | exact Below.refl _ _ | (refine Below.alloc ?_ (by simp <;> omega) _) | (refine Below.setCell ?_ (by simp <;> omega) _)))
theorem ofStr_calls (s : ByteArray) (w : World) : Calls Try.prog 54 #[.string s] w fun e w' => e = .returned (Val.v ⟨3, 0, s⟩) ∧ Below w.heap.size w w' := by
  go_enter Try.func54, Try.ntmps54
  go_wp2
  refine bodyPost_ret (v := Val.v ⟨3, 0, s⟩) (by simp [results, Try.results54, go_sem]) rfl ⟨rfl, ?_⟩
  (repeat (first | exact Below.refl _ _ | (refine Below.alloc ?_ (by simp <;> omega) _) | (refine Below.setCell ?_ (by simp <;> omega) _)))
theorem ofBool_calls (b : Bool) (w : World) : Calls Try.prog 117 #[.bool b] w fun e w' => e = .returned (Val.v ⟨1, if b then 1 else 0, Val.e⟩) ∧ Below w.heap.size w w' := by
  cases b
  · go_enter Try.func117, Try.ntmps117
    go_wp2
    refine bodyPost_ret (v := Val.v ⟨1, 0, Val.e⟩) (by simp [results, Try.results117, go_sem]) rfl ⟨rfl, ?_⟩
    (repeat (first | exact Below.refl _ _ | (refine Below.alloc ?_ (by simp <;> omega) _) | (refine Below.setCell ?_ (by simp <;> omega) _)))
  · go_enter Try.func117, Try.ntmps117
    go_wp2
    refine bodyPost_ret (v := Val.v ⟨1, 1, Val.e⟩) (by simp [results, Try.results117, go_sem]) rfl ⟨rfl, ?_⟩
    (repeat (first | exact Below.refl _ _ | (refine Below.alloc ?_ (by simp <;> omega) _) | (refine Below.setCell ?_ (by simp <;> omega) _)))
theorem strange_calls (x : Val) (w : World) : Calls Try.prog 107 #[x.v] w fun e w' => e = .returned (.bool x.strange) ∧ Below w.heap.size w w' := by
  obtain ⟨k, n, s⟩ := x
  by_cases h : k < 0
  · go_enter Try.func107, Try.ntmps107
    go_wp2
    go_ret
    exact ⟨by simp [Val.strange, h], by (repeat (first | exact Below.refl _ _ | (refine Below.alloc ?_ (by simp <;> omega) _) | (refine Below.setCell ?_ (by simp <;> omega) _)))⟩
  · have h' : decide (k < 0) = false := decide_eq_false h
    go_enter Try.func107, Try.ntmps107
    go_wp2
    go_ret
    exact ⟨by simp only [Val.strange, h', Bool.false_or]; rfl, by (repeat (first | exact Below.refl _ _ | (refine Below.alloc ?_ (by simp <;> omega) _) | (refine Below.setCell ?_ (by simp <;> omega) _)))⟩
theorem lives_calls (x : Val) (w : World) : Calls Try.prog 109 #[x.v] w fun e w' => e = .returned (.int .i64 x.lives) ∧ Below w.heap.size w w' := by
  obtain ⟨k, n, s⟩ := x
  by_cases h : k = 0
  · subst h
    go_enter Try.func109, Try.ntmps109
    go_wp2
    go_ret
    exact ⟨rfl, by (repeat (first | exact Below.refl _ _ | (refine Below.alloc ?_ (by simp <;> omega) _) | (refine Below.setCell ?_ (by simp <;> omega) _)))⟩
  · have h' : decide (k = 0) = false := decide_eq_false h
    go_enter Try.func109, Try.ntmps109
    go_wp2
    go_ret
    exact ⟨by simp [Val.lives, h], by (repeat (first | exact Below.refl _ _ | (refine Below.alloc ?_ (by simp <;> omega) _) | (refine Below.setCell ?_ (by simp <;> omega) _)))⟩
/-- A variable of three cells behind a call. -/
theorem var_kept {w w' : World} {b : Nat} {cs : List Value} (h : Blk w b 57 cs) (hb : Below w.heap.size w w') : Blk w' b 57 cs := h.of (hb.block _ h.lt)
/-- A result that lies in a variable of three cells. -/
theorem results_val {fn : Func} {t : Tmp} {b : Nat} {x : Val} (hr : fn.results = #[.cell t 57]) (tmps : Array Value) (ht : tmps.getD t undef = .pointer (some ⟨b, 0, none⟩)) {w : World} (h : Blk w b 57 x.cells) : (results fn tmps).run Try.prog w = .ok x.v w := by
  have x0 := h.cell 0 _ rfl
  have x1 := h.cell 1 _ rfl
  have x2 := h.cell 2 _ rfl
  have ht' : tmps[t]?.getD undef = .pointer (some ⟨b, 0, none⟩) := (RG.getD_form ⟨tmps, []⟩ t).symm.trans ht
  simp [results, hr, ht', go_sem, x0, x1, x2]
set_option maxHeartbeats 2000000 in
theorem own_calls (x : Val) (w : World) : Calls Try.prog 59 #[x.v] w fun e w' => e = .returned x.own.v ∧ Below w.heap.size w w' := by
  obtain ⟨k, n, s⟩ := x
  have hbk : Blk ((w.alloc (.cells #[.int .i64 k, .int .i64 n, .string s] 57)).alloc (.cells #[.int .i64 0, .int .i64 0, .string ⟨#[]⟩] 57)) (w.heap.size + 1) 57 [.int .i64 0, .int .i64 0, .string ⟨#[]⟩] := by
    simpa using Blk.new (w.alloc (.cells #[.int .i64 k, .int .i64 n, .string s] 57)) [.int .i64 0, .int .i64 0, .string ⟨#[]⟩] 57
  have HBK := Lib.hid hbk
  have HB0 : Hid (Below w.heap.size w ((w.alloc (.cells #[.int .i64 k, .int .i64 n, .string s] 57)).alloc (.cells #[.int .i64 0, .int .i64 0, .string ⟨#[]⟩] 57))) := Lib.hid (by (repeat (first | exact Below.refl _ _ | (refine Below.alloc ?_ (by simp <;> omega) _) | (refine Below.setCell ?_ (by simp <;> omega) _))))
  clear hbk
  by_cases h1 : k = 1
  · subst h1
    have HB := Lib.hid (fun (b : Bool) (W : World) => ofBool_calls b W)
    by_cases hn : n = 0
    · subst hn
      go_enter Try.func59, Try.ntmps59
      go_wp2_with (go_at_call 117; (with_reducible refine (HB.out _ _).mono ?_); rintro e w' ⟨rfl, hb⟩; have hk := var_kept HBK.out hb; have HKK := Lib.hid hk; have x0 := hk.cell 0 _ rfl; have x1 := hk.cell 1 _ rfl; have x2 := hk.cell 2 _ rfl; have f0 := hk.frozen 0; have f1 := hk.frozen 1; have f2 := hk.frozen 2; have HBL := Lib.hid (HB0.out.trans (hb.mono HB0.out.size)); clear hk hb)
      refine bodyPost_ret (results_val (x := ⟨1, 0, Val.e⟩) rfl _ rfl (((HKK.out.setSame 0 _).setSame 1 _).setSame 2 _)) rfl ⟨rfl, ?_⟩
      exact ((HBL.out.setCell (by simp) _).setCell (by simp) _).setCell (by simp) _
    · have hn' : (n != 0) = true := by simp [hn]
      go_enter Try.func59, Try.ntmps59
      go_wp2_with (go_at_call 117; (with_reducible refine (HB.out _ _).mono ?_); rintro e w' ⟨rfl, hb⟩; have hk := var_kept HBK.out hb; have HKK := Lib.hid hk; have x0 := hk.cell 0 _ rfl; have x1 := hk.cell 1 _ rfl; have x2 := hk.cell 2 _ rfl; have f0 := hk.frozen 0; have f1 := hk.frozen 1; have f2 := hk.frozen 2; have HBL := Lib.hid (HB0.out.trans (hb.mono HB0.out.size)); clear hk hb)
      rw [hn'] at *
      refine bodyPost_ret (results_val (x := ⟨1, 1, Val.e⟩) rfl _ rfl (((HKK.out.setSame 0 _).setSame 1 _).setSame 2 _)) rfl ⟨by simp [Val.own, hn], ?_⟩
      exact ((HBL.out.setCell (by simp) _).setCell (by simp) _).setCell (by simp) _
  have h1' : decide (k = 1) = false := decide_eq_false h1
  by_cases h3 : k = 3
  · subst h3
    have HB := Lib.hid (fun (s : ByteArray) (W : World) => ofStr_calls s W)
    clear h1
    go_enter Try.func59, Try.ntmps59
    go_wp2_with (go_at_call 54; (with_reducible refine (HB.out _ _).mono ?_); rintro e w' ⟨rfl, hb⟩; have hk := var_kept HBK.out hb; have HKK := Lib.hid hk; have x0 := hk.cell 0 _ rfl; have x1 := hk.cell 1 _ rfl; have x2 := hk.cell 2 _ rfl; have f0 := hk.frozen 0; have f1 := hk.frozen 1; have f2 := hk.frozen 2; have HBL := Lib.hid (HB0.out.trans (hb.mono HB0.out.size)); clear hk hb)
    refine bodyPost_ret (results_val (x := ⟨3, 0, s⟩) rfl _ rfl (((HKK.out.setSame 0 _).setSame 1 _).setSame 2 _)) rfl ⟨rfl, ?_⟩
    exact ((HBL.out.setCell (by simp) _).setCell (by simp) _).setCell (by simp) _
  have h3' : decide (k = 3) = false := decide_eq_false h3
  by_cases hm : k = 2 ∨ k = 4 ∨ k = 5 ∨ k = 6 ∨ k = 7
  · have he : Val.own ⟨k, n, s⟩ = ⟨k, n, Val.e⟩ := by unfold Val.own; rw [if_neg h1, if_neg h3, if_pos hm]
    rw [he]
    rcases hm with rfl | rfl | rfl | rfl | rfl
    all_goals
      clear h1 h3 he h1' h3' HBK HB0
      go_enter Try.func59, Try.ntmps59
      go_wp2
      refine bodyPost_ret (v := Val.v ⟨_, n, Val.e⟩) (by simp [results, Try.results59, go_sem]) rfl ⟨rfl, ?_⟩
      (repeat (first | exact Below.refl _ _ | (refine Below.alloc ?_ (by simp <;> omega) _) | (refine Below.setCell ?_ (by simp <;> omega) _)))
  · have he : Val.own ⟨k, n, s⟩ = Val.nil := by unfold Val.own; rw [if_neg h1, if_neg h3, if_neg hm]
    rw [he]
    have g2 : (k == 2) = false := by simp; omega
    have g4 : (k == 4) = false := by simp; omega
    have g5 : (k == 5) = false := by simp; omega
    have g6 : (k == 6) = false := by simp; omega
    have g7 : (k == 7) = false := by simp; omega
    have g1 : (k == 1) = false := by simp [h1]
    have g3 : (k == 3) = false := by simp [h3]
    clear h1 h3 hm he HBK HB0 h1' h3'
    go_enter Try.func59, Try.ntmps59
    go_wp2
    refine bodyPost_ret (v := Val.v Val.nil) (by simp [results, Try.results59, go_sem]) rfl ⟨rfl, ?_⟩
    (repeat (first | exact Below.refl _ _ | (refine Below.alloc ?_ (by simp <;> omega) _) | (refine Below.setCell ?_ (by simp <;> omega) _)))
theorem results_val2 {fn : Func} {t u : Tmp} {b : Nat} {x : Val} {y : Value} (hr : fn.results = #[.cell t 57, .tmp u]) (tmps : Array Value) (ht : tmps.getD t undef = .pointer (some ⟨b, 0, none⟩)) (hu : tmps.getD u undef = y) {w : World} (h : Blk w b 57 x.cells) : (results fn tmps).run Try.prog w = .ok (.tuple #[x.v, y]) w := by
  have x0 := h.cell 0 _ rfl
  have x1 := h.cell 1 _ rfl
  have x2 := h.cell 2 _ rfl
  have ht' : tmps[t]?.getD undef = .pointer (some ⟨b, 0, none⟩) := (RG.getD_form ⟨tmps, []⟩ t).symm.trans ht
  have hu' : tmps[u]?.getD undef = y := (RG.getD_form ⟨tmps, []⟩ u).symm.trans hu
  simp [results, hr, ht', hu', go_sem, x0, x1, x2]
/-- What Key makes: the key, and the error's number. -/
def keyV (x : Val) : Val := if x.bad then Val.nil else x.own
def keyE (x : Val) : Int := if x.bad then 15 else 0
set_option maxHeartbeats 2000000 in
theorem key_calls (x : Val) (w : World) : Calls Try.prog 43 #[x.v] w fun e w' => e = .returned (.tuple #[(keyV x).v, .int .i64 (keyE x)]) ∧ Below w.heap.size w w' := by
  obtain ⟨k, n, s⟩ := x
  have hbk : Blk ((w.alloc (.cells #[.int .i64 k, .int .i64 n, .string s] 57)).alloc (.cells #[.int .i64 0, .int .i64 0, .string ⟨#[]⟩] 57)) (w.heap.size + 1) 57 [.int .i64 0, .int .i64 0, .string ⟨#[]⟩] := by
    simpa using Blk.new (w.alloc (.cells #[.int .i64 k, .int .i64 n, .string s] 57)) [.int .i64 0, .int .i64 0, .string ⟨#[]⟩] 57
  have hbx : Blk ((w.alloc (.cells #[.int .i64 k, .int .i64 n, .string s] 57)).alloc (.cells #[.int .i64 0, .int .i64 0, .string ⟨#[]⟩] 57)) w.heap.size 57 [.int .i64 k, .int .i64 n, .string s] := (Blk.new w [.int .i64 k, .int .i64 n, .string s] 57).alloc _
  have HBK := Lib.hid hbk; have HBX := Lib.hid hbx
  have HB0 : Hid (Below w.heap.size w ((w.alloc (.cells #[.int .i64 k, .int .i64 n, .string s] 57)).alloc (.cells #[.int .i64 0, .int .i64 0, .string ⟨#[]⟩] 57))) := Lib.hid (by (repeat (first | exact Below.refl _ _ | (refine Below.alloc ?_ (by simp <;> omega) _) | (refine Below.setCell ?_ (by simp <;> omega) _))))
  clear hbk hbx
  have HS := Lib.hid (fun (W : World) => strange_calls ⟨k, n, s⟩ W)
  have HO := Lib.hid (fun (W : World) => own_calls ⟨k, n, s⟩ W)
  by_cases h0 : k = 0
  · subst h0
    go_enter Try.func43, Try.ntmps43
    go_wp2_with fail
    exact bodyPost_ret (results_val2 (x := Val.nil) rfl _ rfl rfl HBK.out) rfl ⟨rfl, HB0.out⟩
  · have g0 : (k == 0) = false := by simp [h0]
    cases hst : Val.strange ⟨k, n, s⟩ with
    | true =>
      have HST := Lib.hid hst
      rw [hst] at HS
      clear hst h0
      go_enter Try.func43, Try.ntmps43
      go_wp2_with (go_at_call 107; (with_reducible refine (HS.out _).mono ?_); rintro e w' ⟨rfl, hb⟩; have hk := var_kept HBK.out hb; have HKK := Lib.hid hk; have x0 := hk.cell 0 _ rfl; have x1 := hk.cell 1 _ rfl; have x2 := hk.cell 2 _ rfl; have f0 := hk.frozen 0; have f1 := hk.frozen 1; have f2 := hk.frozen 2; have HBL := Lib.hid (HB0.out.trans (hb.mono HB0.out.size)); clear hk hb)
      exact bodyPost_ret (results_val2 (x := Val.nil) rfl _ rfl rfl (((HKK.out.setSame 0 _).setSame 1 _).setSame 2 _)) rfl ⟨by simp [keyV, keyE, Val.bad, HST.out], ((HBL.out.setCell (by simp) _).setCell (by simp) _).setCell (by simp) _⟩
    | false =>
      have HST := Lib.hid hst
      have hbad : Val.bad ⟨k, n, s⟩ = false := by unfold Val.bad; rw [hst, decide_eq_false h0]; rfl
      have HBAD := Lib.hid hbad
      rw [hst] at HS
      clear hst h0 hbad
      go_enter Try.func43, Try.ntmps43
      go_wp2_with (first
        | (go_at_call 107; (with_reducible refine (HS.out _).mono ?_); rintro e w' ⟨rfl, hb⟩; have hk := var_kept HBK.out hb; have HKK := Lib.hid hk; have hkx := var_kept HBX.out hb; have HKX := Lib.hid hkx; have y0 := hkx.cell 0 _ rfl; have y1 := hkx.cell 1 _ rfl; have y2 := hkx.cell 2 _ rfl; have HBL := Lib.hid (HB0.out.trans (hb.mono HB0.out.size)); clear hk hkx hb)
        | (go_at_call 59; (with_reducible refine (HO.out _).mono ?_); rintro e w'' ⟨rfl, hb⟩; have hk := var_kept HKK.out hb; have HKK2 := Lib.hid hk; have x0 := hk.cell 0 _ rfl; have x1 := hk.cell 1 _ rfl; have x2 := hk.cell 2 _ rfl; have f0 := hk.frozen 0; have f1 := hk.frozen 1; have f2 := hk.frozen 2; have HBL2 := Lib.hid (HBL.out.trans (hb.mono HBL.out.size)); clear hk hb))
      exact bodyPost_ret (results_val2 (x := Val.own ⟨k, n, s⟩) rfl _ rfl rfl (((HKK2.out.setSame 0 _).setSame 1 _).setSame 2 _)) rfl ⟨by simp [keyV, keyE, HBAD.out], ((HBL2.out.setCell (by simp) _).setCell (by simp) _).setCell (by simp) _⟩
end Go.Proofs.Ytmjfmfelbmbniaa

/- Layer 13: the hash of a key. -/
namespace Go.Proofs.Ytmjfmfelbmbniaa
open Go.RowKit Go.Maps HK
set_option linter.unusedVariables false
set_option linter.unusedSimpArgs false
def hmul (a b : Int) : Int := IntKind.u64.wrap (bits .xor .u64 a b * 1099511628211)
def hash0 (k : Int) : Int := hmul 14695981039346656037 (IntKind.u64.wrap k)
def hstep (h : Int) (c : UInt8) : Int := hmul h (IntKind.u64.wrap (c.toNat : Nat))
def hashV (x : Val) : Int := if x.k = 3 then x.s.data.toList.foldl hstep (hash0 x.k) else bits .xor .u64 (hmul (hash0 x.k) (IntKind.u64.wrap x.n)) (hmul (hash0 x.k) (IntKind.u64.wrap x.n) / 536870912)
set_option maxHeartbeats 2000000 in
theorem hash_calls (x : Val) (hx : x.s.size ≤ maxLen) (w : World) : Calls Try.prog 148 #[x.v] w fun e w' => e = .returned (.int .u64 (hashV x)) ∧ Below w.heap.size w w' := by
  obtain ⟨k, n, s⟩ := x
  have hx' : s.size ≤ 9223372036854775807 := hx
  clear hx
  by_cases h3 : k = 3
  · subst h3
    have hV : hashV ⟨3, n, s⟩ = s.data.toList.foldl hstep (hash0 3) := rfl
    have HV := Lib.hid hV
    clear hV
    go_enter Try.func148, Try.ntmps148
    go_wp2_with fail
    go_loop [3, 28] (fun h i => ∃ j : Nat, j ≤ s.size ∧ i = .int .i64 j ∧ h = .int .u64 ((s.data.toList.take j).foldl hstep (hash0 3))) (fun _ i => s.size - (intOf i).toNat)
    case atStart => exact ⟨0, Nat.zero_le _, rfl, rfl⟩
    case round =>
      obtain ⟨j, hj, rfl, rfl⟩ := hrel
      by_cases hlt : j < s.size
      · have hj0 : (0 : Int) ≤ (j : Int) := by omega
        have hj1 : (j : Int) < (s.size : Int) := by omega
        have HS : Hid ((s.data.toList.take (j + 1)).foldl hstep (hash0 3) = hstep ((s.data.toList.take j).foldl hstep (hash0 3)) (s.data.toList[j]'(by simpa using hlt))) := Lib.hid (by
          rw [List.take_succ_eq_append_getElem (by simpa using hlt), List.foldl_append]; rfl)
        generalize (s.data.toList.take j).foldl hstep (hash0 3) = h0 at *
        go_wp2_with fail
        go_round
        case rel => exact ⟨j + 1, by omega, by go_num, by rw [HS.out]; rfl⟩
        case measure => simp [intOf]; omega
      · obtain rfl : j = s.size := by omega
        have HO : Hid (s.data.toList.take s.size = s.data.toList) := Lib.hid (List.take_of_length_le (by simp))
        go_wp2_with fail
        go_ret
        exact ⟨by rw [HV.out, HO.out]; rfl, by (repeat (first | exact Below.refl _ _ | (refine Below.alloc ?_ (by simp <;> omega) _) | (refine Below.setCell ?_ (by simp <;> omega) _)))⟩
  · have h3' : (k == 3) = false := by simp [h3]
    have hV : hashV ⟨k, n, s⟩ = bits .xor .u64 (hmul (hash0 k) (IntKind.u64.wrap n)) (hmul (hash0 k) (IntKind.u64.wrap n) / 536870912) := if_neg h3
    have HV := Lib.hid hV
    clear hV h3
    go_enter Try.func148, Try.ntmps148
    go_wp2_with fail
    go_ret
    exact ⟨by rw [HV.out]; rfl, by (repeat (first | exact Below.refl _ _ | (refine Below.alloc ?_ (by simp <;> omega) _) | (refine Below.setCell ?_ (by simp <;> omega) _)))⟩
end Go.Proofs.Ytmjfmfelbmbniaa

/- Layer 13: the open-addressed table as plain lists. -/
namespace Go.Proofs.Ytmjfmfelbmbniaa
open Go.RowKit Go.Maps HK
set_option linter.unusedVariables false
set_option linter.unusedSimpArgs false
abbrev Ent := Option (Val × Val)
/-- An entry's place is found, or a free one. -/
def probe (T : List Nat) (es : List Ent) (k : Val) : Nat → Nat → Nat × Int
  | 0, p => (p, -1)
  | f + 1, p =>
    if T.getD p 0 = 0 then (p, -1)
    else if (es.getD (T.getD p 0 - 1) none).map (·.1) = some k then (p, ((T.getD p 0 - 1 : Nat) : Int))
    else probe T es k f ((p + 1) % T.length)
def startM (k : Val) (n : Nat) : Nat := (bits .and .i64 (IntKind.i64.wrap (hashV k)) ((n : Int) - 1)).toNat
def findM (T : List Nat) (es : List Ent) (k : Val) : Nat × Int := probe T es k T.length (startM k T.length)
theorem and_mask (x : Int) (n : Nat) (h0 : 0 < n) (h1 : n ≤ 4611686018427387904) : ∃ r : Nat, bits .and .i64 x ((n : Int) - 1) = (r : Int) ∧ r < n := by
  have hc : ((n : Int) - 1) = ((n - 1 : Nat) : Int) := by omega
  refine ⟨(BitVec.ofInt 64 x &&& BitVec.ofInt 64 ((n - 1 : Nat) : Int)).toNat, ?_, ?_⟩
  · rw [hc]
    have hlt : (BitVec.ofInt 64 x &&& BitVec.ofInt 64 ((n - 1 : Nat) : Int)).toNat ≤ n - 1 := by
      rw [BitVec.toNat_and, BitVec.ofInt_natCast, BitVec.toNat_ofNat, Nat.mod_eq_of_lt (by omega)]
      exact Nat.and_le_right
    simp only [bits]
    show IntKind.i64.wrap ((BitVec.ofInt 64 x &&& BitVec.ofInt 64 ((n - 1 : Nat) : Int)).toNat : Int) = _
    rw [IntKind.wrap_i64]
    omega
  · rw [BitVec.toNat_and, BitVec.ofInt_natCast, BitVec.toNat_ofNat, Nat.mod_eq_of_lt (by omega)]
    exact Nat.lt_of_le_of_lt Nat.and_le_right (by omega)
theorem start_spec (k : Val) (n : Nat) (h0 : 0 < n) (h1 : n ≤ 4611686018427387904) : bits .and .i64 (IntKind.i64.wrap (hashV k)) ((n : Int) - 1) = (startM k n : Int) ∧ startM k n < n := by
  obtain ⟨r, h2, h3⟩ := and_mask (IntKind.i64.wrap (hashV k)) n h0 h1
  unfold startM
  rw [h2]
  exact ⟨by simp, by simpa using h3⟩
theorem and_next (n p : Nat) (hn : ∃ m, n = 2 ^ m) (h1 : n ≤ 4611686018427387904) (hp : p < n) : bits .and .i64 ((p : Int) + 1) ((n : Int) - 1) = (((p + 1) % n : Nat) : Int) := by
  obtain ⟨m, rfl⟩ := hn
  have hm : m ≤ 62 := by
    rcases Nat.lt_or_ge 62 m with h | h
    · have : 2 ^ 63 ≤ 2 ^ m := Nat.pow_le_pow_right (by decide) h
      omega
    · exact h
  have := bits_mask .i64 63 (by decide) (fun n a b => by rw [IntKind.wrap_i64]; omega) m (by omega) ((p : Int) + 1) (by omega) (by omega)
  rw [show (((2 : Nat) ^ m : Nat) : Int) - 1 = 2 ^ m - 1 by simp, this]
  simp
section
variable {T : List Nat} {es fs : List Ent} {k : Val} {p : Nat}
theorem mod_step (n p j : Nat) : ((p + 1) % n + j) % n = (p + (j + 1)) % n := by
  rw [Nat.mod_add_mod, show p + 1 + j = p + (j + 1) by omega]
theorem probe_found {i : Nat} {v : Val} (hi : es.getD i none = some (k, v)) (hu : ∀ x w, es.getD x none = some (k, w) → x = i) : ∀ (f p j : Nat), j < f → p < T.length → T.getD ((p + j) % T.length) 0 = i + 1 → (∀ j', j' < j → T.getD ((p + j') % T.length) 0 ≠ 0) → (probe T es k f p).2 = i
  | 0, p, j, hj, _, _, _ => absurd hj (Nat.not_lt_zero _)
  | f + 1, p, 0, hj, hp, ht, hn => by
    rw [Nat.add_zero, Nat.mod_eq_of_lt hp] at ht
    unfold probe
    rw [ht]
    simp only [Nat.add_sub_cancel, hi, Option.map_some, if_true]
    rw [if_neg (by omega)]
  | f + 1, p, j + 1, hj, hp, ht, hn => by
    have h0 := hn 0 (by omega)
    rw [Nat.add_zero, Nat.mod_eq_of_lt hp] at h0
    unfold probe
    rw [if_neg h0]
    by_cases hm : (es.getD (T.getD p 0 - 1) none).map (·.1) = some k
    · rw [if_pos hm]
      obtain ⟨⟨k', w⟩, h1, h2⟩ := Option.map_eq_some_iff.1 hm
      cases h2
      rw [hu _ w h1]
    · rw [if_neg hm]
      exact probe_found hi hu f ((p + 1) % T.length) j (by omega) (Nat.mod_lt _ (by omega)) (by rw [mod_step]; exact ht) (fun j' hj' => by rw [mod_step]; exact hn (j' + 1) (by omega))
theorem probe_absent (ha : ∀ x w, es.getD x none ≠ some (k, w)) : ∀ (f p : Nat), (∃ j, j < f ∧ T.getD ((p + j) % T.length) 0 = 0) → p < T.length → ∃ j, probe T es k f p = ((p + j) % T.length, -1) ∧ T.getD ((p + j) % T.length) 0 = 0 ∧ ∀ j', j' < j → T.getD ((p + j') % T.length) 0 ≠ 0
  | 0, p, ⟨j, hj, _⟩, _ => absurd hj (Nat.not_lt_zero _)
  | f + 1, p, ⟨j, hj, hz⟩, hp => by
    unfold probe
    by_cases h0 : T.getD p 0 = 0
    · exact ⟨0, by rw [if_pos h0, Nat.add_zero, Nat.mod_eq_of_lt hp], by rwa [Nat.add_zero, Nat.mod_eq_of_lt hp], fun _ h => absurd h (Nat.not_lt_zero _)⟩
    · rw [if_neg h0]
      have hm : ¬ (es.getD (T.getD p 0 - 1) none).map (·.1) = some k := fun hm => by
        obtain ⟨⟨k', w⟩, h1, h2⟩ := Option.map_eq_some_iff.1 hm
        cases h2
        exact ha _ w h1
      rw [if_neg hm]
      have hj0 : j ≠ 0 := by
        rintro rfl
        rw [Nat.add_zero, Nat.mod_eq_of_lt hp] at hz
        exact h0 hz
      obtain ⟨q, h1, h2, h3⟩ := probe_absent ha f ((p + 1) % T.length) ⟨j - 1, by omega, by rw [mod_step, show j - 1 + 1 = j by omega]; exact hz⟩ (Nat.mod_lt _ (by omega))
      rw [mod_step] at h1 h2
      refine ⟨q + 1, h1, h2, fun j' hj' => ?_⟩
      cases j' with
      | zero => rwa [Nat.add_zero, Nat.mod_eq_of_lt hp]
      | succ j' => rw [← mod_step]; exact h3 j' (by omega)
theorem probe_congr (h : ∀ x ∈ T, x ≠ 0 → es.getD (x - 1) none = fs.getD (x - 1) none) : ∀ (f p : Nat), probe T es k f p = probe T fs k f p
  | 0, p => rfl
  | f + 1, p => by
    unfold probe
    by_cases h0 : T.getD p 0 = 0
    · rw [if_pos h0, if_pos h0]
    · have hp : p < T.length := by
        rcases Nat.lt_or_ge p T.length with h | h
        · exact h
        · exact absurd (by simp [List.getD, List.getElem?_eq_none h]) h0
      have hm : T.getD p 0 ∈ T := by simp [List.getD, List.getElem?_eq_getElem hp]
      rw [if_neg h0, if_neg h0, h _ hm h0, probe_congr h f]
theorem zero_near (n q p : Nat) (hq : q < n) (hp : p < n) : ∃ j, j < n ∧ (p + j) % n = q := by
  rcases Nat.lt_or_ge q p with h | h
  · exact ⟨n - p + q, by omega, by rw [show p + (n - p + q) = q + n by omega, Nat.add_mod_right, Nat.mod_eq_of_lt hq]⟩
  · exact ⟨q - p, by omega, by rw [show p + (q - p) = q by omega, Nat.mod_eq_of_lt hq]⟩
theorem zero_at : ∀ {T : List Nat}, T.countP (fun x => decide (x ≠ 0)) < T.length → ∃ q, q < T.length ∧ T.getD q 0 = 0
  | [], h => by simp at h
  | x :: r, h => by
    by_cases hx : x = 0
    · exact ⟨0, by simp, by simpa using hx⟩
    · rw [List.countP_cons_of_pos (by simpa using hx), List.length_cons] at h
      obtain ⟨q, h1, h2⟩ := zero_at (T := r) (by omega)
      exact ⟨q + 1, by simpa using h1, by simpa using h2⟩
theorem count_set : ∀ {T : List Nat} {q x : Nat}, q < T.length → T.getD q 0 = 0 → x ≠ 0 → (T.set q x).countP (fun x => decide (x ≠ 0)) = T.countP (fun x => decide (x ≠ 0)) + 1
  | [], q, x, h, _, _ => by simp at h
  | y :: r, 0, x, h, h1, h2 => by
    have : y = 0 := by simpa using h1
    subst this
    rw [List.set_cons_zero, List.countP_cons_of_pos (by simpa using h2), List.countP_cons_of_neg (by simp)]
  | y :: r, q + 1, x, h, h1, h2 => by
    rw [List.set_cons_succ, List.countP_cons, List.countP_cons, count_set (by simpa using h) (by simpa using h1) h2]
    omega
/-- The table finds what the entries hold. -/
structure TabOK (T : List Nat) (es : List Ent) : Prop where
  pow : ∃ m, T.length = 2 ^ m
  big : 8 ≤ T.length
  top : T.length ≤ 1048576
  le : ∀ x ∈ T, x ≤ es.length
  cnt : T.countP (fun x => decide (x ≠ 0)) ≤ es.length
  fill : 4 * es.length ≤ 3 * T.length
  reach : ∀ i k v, es.getD i none = some (k, v) → ∃ j, T.getD ((startM k T.length + j) % T.length) 0 = i + 1 ∧ ∀ j', j' < j → T.getD ((startM k T.length + j') % T.length) 0 ≠ 0
/-- No key stands twice. -/
def Uniq (es : List Ent) : Prop := ∀ i j k v w, es.getD i none = some (k, v) → es.getD j none = some (k, w) → i = j
theorem TabOK.zero (h : TabOK T es) : ∃ q, q < T.length ∧ T.getD q 0 = 0 := zero_at (by have := h.cnt; have := h.fill; have := h.big; omega)
theorem TabOK.start (h : TabOK T es) (k : Val) : startM k T.length < T.length := (start_spec k T.length (by have := h.big; omega) (by have := h.top; omega)).2
theorem TabOK.found (h : TabOK T es) (hu : Uniq es) {i : Nat} {v : Val} (hi : es.getD i none = some (k, v)) : (findM T es k).2 = i := by
  obtain ⟨j, h1, h2⟩ := h.reach i k v hi
  obtain ⟨q, hq, hz⟩ := h.zero
  refine probe_found hi (fun x w hx => hu x i k w v hx hi) _ _ j ?_ (h.start k) h1 h2
  rcases Nat.lt_or_ge j T.length with h' | h'
  · exact h'
  · obtain ⟨j', h3, h4⟩ := zero_near T.length q (startM k T.length) hq (h.start k)
    exact absurd (by rw [h4]; exact hz) (h2 j' (by omega))
theorem TabOK.absent (h : TabOK T es) (ha : ∀ x w, es.getD x none ≠ some (k, w)) : ∃ j, findM T es k = ((startM k T.length + j) % T.length, -1) ∧ T.getD ((startM k T.length + j) % T.length) 0 = 0 ∧ ∀ j', j' < j → T.getD ((startM k T.length + j') % T.length) 0 ≠ 0 := by
  obtain ⟨q, hq, hz⟩ := h.zero
  obtain ⟨j', h3, h4⟩ := zero_near T.length q (startM k T.length) hq (h.start k)
  exact probe_absent ha _ _ ⟨j', h3, by rw [h4]; exact hz⟩ (h.start k)
theorem getD_set {T : List Nat} {q x i : Nat} (hq : q < T.length) : (T.set q x).getD i 0 = if i = q then x else T.getD i 0 := by
  simp only [List.getD_eq_getElem?_getD]
  rw [List.getElem?_set]
  by_cases e : q = i
  · subst e; simp [hq]
  · simp [e, Ne.symm e]
theorem getD_snoc {es : List Ent} {x : Ent} {i : Nat} : (es ++ [x]).getD i none = if i = es.length then x else es.getD i none := by
  simp only [List.getD_eq_getElem?_getD]
  rcases Nat.lt_trichotomy i es.length with h | h | h
  · rw [List.getElem?_append_left h, if_neg (by omega)]
  · subst h; simp
  · rw [List.getElem?_eq_none (by simp; omega), List.getElem?_eq_none (by omega), if_neg (by omega)]
theorem TabOK.put (h : TabOK T es) (ha : ∀ x w, es.getD x none ≠ some (k, w)) (v : Val) (hf : 4 * (es.length + 1) ≤ 3 * T.length) : TabOK (T.set (findM T es k).1 (es.length + 1)) (es ++ [some (k, v)]) := by
  obtain ⟨j, h1, h2, h3⟩ := h.absent ha
  rw [h1]
  have hq : (startM k T.length + j) % T.length < T.length := Nat.mod_lt _ (by have := h.big; omega)
  dsimp only
  generalize hqq : (startM k T.length + j) % T.length = q at *
  refine ⟨?_, ?_, ?_, ?_, ?_, ?_, ?_⟩
  · simpa using h.pow
  · simpa using h.big
  · simpa using h.top
  · intro x hx
    rw [List.length_append, List.length_singleton]
    rcases List.mem_or_eq_of_mem_set hx with hx | rfl
    · have := h.le x hx; omega
    · exact Nat.le_refl _
  · rw [count_set hq h2 (by omega), List.length_append]
    have := h.cnt
    simpa using this
  · rw [List.length_append, List.length_set]; simpa using hf
  · intro i k' v' hi
    rw [getD_snoc] at hi
    rw [List.length_set]
    by_cases e : i = es.length
    · rw [if_pos e] at hi
      cases hi
      refine ⟨j, by rw [getD_set hq, if_pos hqq, e], fun j' hj' => ?_⟩
      rw [getD_set hq]
      split
      · omega
      · exact h3 j' hj'
    · rw [if_neg e] at hi
      obtain ⟨j0, g1, g2⟩ := h.reach i k' v' hi
      refine ⟨j0, ?_, fun j' hj' => ?_⟩
      · rw [getD_set hq, if_neg (fun e' => by rw [e', h2] at g1; omega)]; exact g1
      · rw [getD_set hq]
        split
        · omega
        · exact g2 j' hj'
/-- An entry's value, or that it is none any more, says nothing of where the others stand. -/
theorem TabOK.over (h : TabOK T es) {i : Nat} {x : Ent} (hx : ∀ k v, x = some (k, v) → ∃ w, es.getD i none = some (k, w)) : TabOK T (es.set i x) := by
  refine ⟨h.pow, h.big, h.top, fun y hy => by rw [List.length_set]; exact h.le y hy, by rw [List.length_set]; exact h.cnt, by rw [List.length_set]; exact h.fill, fun j k v hj => ?_⟩
  rw [List.getD_eq_getElem?_getD, List.getElem?_set] at hj
  by_cases e : i = j
  · rw [if_pos e] at hj
    subst e
    split at hj
    · obtain ⟨w, hw⟩ := hx k v (by simpa using hj)
      exact h.reach i k w hw
    · cases hj
  · rw [if_neg e, ← List.getD_eq_getElem?_getD] at hj
    exact h.reach j k v hj
/-- Nothing has come yet. -/
theorem TabOK.none (m : Nat) (h3 : 3 ≤ m) (h20 : m ≤ 20) : TabOK (List.replicate (2 ^ m) 0) [] := by
  have h8 : 2 ^ 3 ≤ 2 ^ m := Nat.pow_le_pow_right (by decide) h3
  have h9 : 2 ^ m ≤ 2 ^ 20 := Nat.pow_le_pow_right (by decide) h20
  refine ⟨⟨m, by simp⟩, by simp; omega, by simp; omega, fun x hx => ?_, ?_, ?_, fun i k v hi => ?_⟩
  · rw [(List.mem_replicate.1 hx).2]; simp
  · simp [List.countP_replicate]
  · simp
  · simp at hi
end
end Go.Proofs.Ytmjfmfelbmbniaa

/- Layer 12 without memory: the ways that keys lead through the shapes. -/
namespace Go.Proofs.Ytmjfmfelbmbniaa.ShM
set_option linter.unusedVariables false
set_option linter.unusedSimpArgs false
def ksAt (T : List Sh) (i : Nat) : List ByteArray := (T.getD i ([], 0)).1
/-- Where keys lead from a shape on. -/
def walkM (T : List Sh) : Nat → List ByteArray → Option Nat
  | a, [] => some a
  | a, z :: r => match kidFrom T 0 a z with
    | some j => walkM T j r
    | none => none
theorem WF.kid {deep : Int} {T : List Sh} (h : WF deep T) {a n : Nat} {z : ByteArray} (hk : kidFrom T 0 a z = some n) : n < T.length ∧ ksAt T n = ksAt T a ++ [z] ∧ z ∉ ksAt T a := by
  obtain ⟨_, x, hx, hp, hl⟩ := kidFrom_spec hk
  rw [Nat.sub_zero] at hx
  have hn : n < T.length := (List.getElem?_eq_some_iff.1 hx).1
  have e : T.getD n ([], 0) = x := by simp [List.getD, hx]
  obtain ⟨z', hz, hks⟩ := h.path n hn a (by rw [e]; exact hp)
  rw [e] at hks
  rw [hks] at hl
  have hzz : z' = z := by simpa using hl
  subst hzz
  exact ⟨hn, by unfold ksAt; rw [e]; exact hks, hz⟩
theorem WF.walk {deep : Int} {T : List Sh} (h : WF deep T) : ∀ {ks : List ByteArray} {a b : Nat}, a < T.length → walkM T a ks = some b → b < T.length ∧ ksAt T b = ksAt T a ++ ks
  | [], a, b, ha, hw => by cases hw; exact ⟨ha, by simp⟩
  | z :: r, a, b, ha, hw => by
    simp only [walkM] at hw
    cases hk : kidFrom T 0 a z with
    | none => rw [hk] at hw; cases hw
    | some j =>
      rw [hk] at hw
      obtain ⟨h1, h2, _⟩ := h.kid hk
      obtain ⟨h3, h4⟩ := h.walk h1 hw
      exact ⟨h3, by rw [h4, h2]; simp⟩
theorem addM_extT (deep fan : Int) (T : List Sh) (i : Int) (z : ByteArray) : ∃ U, (addM deep fan T i z).T = T ++ U := by
  unfold addM
  split
  · exact ⟨[], by simp⟩
  · dsimp only
    split
    · exact ⟨[], by simp⟩
    · split
      · exact ⟨[], by simp⟩
      · split
        · exact ⟨[], by simp⟩
        · exact ⟨_, rfl⟩
end Go.Proofs.Ytmjfmfelbmbniaa.ShM

/- A region that draws its order and whose last operation, that waits for all others, writes: the condition on the world need not stand behind it. Plain lemmas over any program. -/
namespace Go.Proofs.Ytmjfmfelbmbniaa.RG
set_option linter.unusedVariables false
set_option linter.unusedSimpArgs false
/-- Whatever order is picked; S stands behind every operation but L; L is the last. -/
def wpAnyF (P : Program) (md : Region.Mode) (ops : Array Oper) (Q : Exit → Act → World → Prop) (S : World → Prop) (L : Nat) : Nat → Array Bool → Act → World → Prop
  | 0, listed, a, w => Region.ready md ops listed = [] ∧ Q .normal a w
  | fuel + 1, listed, a, w =>
    (Region.ready md ops listed = [] → Q .normal a w) ∧
    ∀ i ∈ Region.ready md ops listed, wpOp P ops Q i (fun a' w' => if i = L then Region.ready md ops (listed.setIfInBounds i true) = [] ∧ Q .normal a' w' else S w' ∧ wpAnyF P md ops Q S L fuel (listed.setIfInBounds i true) a' w') a w
/-- L waits for i. -/
def waits (md : Region.Mode) (ops : Array Oper) (L i : Nat) : Bool := match ops[L]? with
  | some o => o.after.any fun e => Region.binds md e && e.on == i
  | none => false
section
variable {P : Program} {ops : Array Oper} {Q : Exit → Act → World → Prop} {md : Region.Mode} {S : World → Prop} {L : Nat}
theorem wpAny_of_F : ∀ (fuel : Nat) (listed : Array Bool) (a : Act) (w : World), wpAnyF P md ops Q S L fuel listed a w → wpAny P md ops Q fuel listed a w
  | 0, _, _, _, h => h
  | fuel + 1, listed, _, _, h => ⟨h.1, fun i hi => wpOp_mono (fun a' w' h' => by
      by_cases e : i = L
      · rw [if_pos e] at h'
        cases fuel with
        | zero => exact h'
        | succ n => exact ⟨fun _ => h'.2, fun k hk => by rw [h'.1] at hk; cases hk⟩
      · rw [if_neg e] at h'
        exact wpAny_of_F fuel _ a' w' h'.2) (h.2 i hi)⟩
theorem not_ready {listed : Array Bool} {i : Nat} (hw : waits md ops L i = true) (hi : listed.getD i true = false) : L ∉ Region.ready md ops listed := by
  intro h
  obtain ⟨_, o, ho, hall⟩ := mem_ready.1 h
  unfold waits at hw
  rw [ho] at hw
  obtain ⟨e, he, h5⟩ := Array.any_eq_true'.1 hw
  simp only [Bool.and_eq_true, beq_iff_eq] at h5
  have h1 := hall e he h5.1
  rw [h5.2] at h1
  rcases Nat.lt_or_ge i listed.size with h' | h'
  · simp [Array.getD, h'] at hi h1; rw [hi] at h1; cases h1
  · simp [Array.getD, Nat.not_lt.2 h'] at hi
theorem wpAnyF_first {i : Nat} {oi : Oper} {v : Value} (hi : ops[i]? = some oi) (hsel : ∀ (j : Nat) (o : Oper) cs b, ops[j]? = some o → o.op ≠ .select cs b) (hiL : i ≠ L) (hw : waits md ops L i = true)
    (hQ : ∀ c a w, Q (.panic c) (a.put oi.dst v) w → Q (.panic c) a w) :
    ∀ (fuel : Nat) (listed : Array Bool) (a : Act) (w : World),
      (∀ j oj, ops[j]? = some oj → j ≠ i → listed.getD j true = false → (∀ e ∈ oj.after, Region.binds md e = true → e.on ≠ i) → oi.apart ops oj = true) →
      i ∈ Region.ready md ops listed → YieldsIf P ops S oi v a → S w →
      wpAnyF P md ops Q S L fuel (listed.setIfInBounds i true) (a.put oi.dst v) w → wpAnyF P md ops Q S L (fuel + 1) listed a w := by
  intro fuel
  induction fuel with
  | zero =>
    intro listed a w _ hr hy hS H
    refine ⟨fun h => (by rw [h] at hr; cases hr), fun j hj => ?_⟩
    by_cases hji : j = i
    · subst hji; exact hy.wpOp hi hS (by rw [if_neg hiL]; exact ⟨hS, H⟩)
    · have := ready_mono hj hji
      rw [H.1] at this
      cases this
  | succ fuel ih =>
    intro listed a w hfree hr hy hS H
    refine ⟨fun h => (by rw [h] at hr; cases hr), fun j hj => ?_⟩
    by_cases hji : j = i
    · subst hji; exact hy.wpOp hi hS (by rw [if_neg hiL]; exact ⟨hS, H⟩)
    · have hjL : j ≠ L := by
        rintro rfl
        exact not_ready hw (mem_ready.1 hr).1 hj
      have h1 := H.2 j (ready_mono hj hji)
      simp only [if_neg hjL]
      simp only [if_neg hjL] at h1
      obtain ⟨hjun, oj, hoj, hall⟩ := mem_ready.1 hj
      have hnot : ∀ e ∈ oj.after, Region.binds md e = true → e.on ≠ i := fun e he hb heq => by
        have h1 := hall e he hb
        have h0 := (mem_ready.1 hr).1
        rw [heq] at h1
        rcases Nat.lt_or_ge i listed.size with h' | h'
        · simp [h'] at h0 h1; rw [h0] at h1; cases h1
        · simp [Array.getElem?_eq_none h'] at h1
      have h2 := wpOp_putIf hoj (hfree j oj hoj hji hjun hnot) (fun cs b => hsel i oi cs b hi) (fun cs b => hsel j oj cs b hoj) hQ hy h1
      have hfree' : ∀ k ok, ops[k]? = some ok → k ≠ i → (listed.setIfInBounds j true).getD k true = false →
          (∀ e ∈ ok.after, Region.binds md e = true → e.on ≠ i) → oi.apart ops ok = true := fun k ok hk hki hun hno => by
        refine hfree k ok hk hki ?_ hno
        by_cases hjk : j = k
        · subst hjk; exact hjun
        · rw [getD_set_ne true hjk] at hun; exact hun
      refine wpOp_mono (fun a' w' h3 => ⟨h3.2.1, ih (listed.setIfInBounds j true) a' w' hfree' (ready_mono hr (Ne.symm hji)) h3.1 h3.2.1 ?_⟩) h2
      rw [Array.setIfInBounds_comm _ _ hji]
      exact h3.2.2
theorem takeF (i : Nat) {oi : Oper} {v : Value} {fuel : Nat} {listed : Array Bool} {a : Act} {w : World} (hi : ops[i]? = some oi)
    (hs : Region.noSelect ops = true) (hf : Region.free md ops listed i = true) (hr : (Region.ready md ops listed).contains i = true) (hL : (i != L && waits md ops L i) = true)
    (hQ : ∀ c a w, Q (.panic c) (a.put oi.dst v) w → Q (.panic c) a w) (hy : YieldsIf P ops S oi v a) (hS : S w)
    (h : wpAnyF P md ops Q S L fuel (listed.setIfInBounds i true) (a.put oi.dst v) w) : wpAnyF P md ops Q S L (fuel + 1) listed a w := by
  simp only [Bool.and_eq_true, bne_iff_ne, ne_eq] at hL
  exact wpAnyF_first hi (Region.noSelect_spec hs) hL.1 hL.2 hQ fuel listed a w (Region.free_spec hi hf) (by simpa using hr) hy hS h
theorem oneF (i : Nat) {fuel : Nat} {listed : Array Bool} {a : Act} {w : World} (hr : Region.ready md ops listed = [i]) (hi : i ≠ L)
    (h : wpOp P ops Q i (fun a' w' => S w' ∧ wpAnyF P md ops Q S L fuel (listed.setIfInBounds i true) a' w') a w) : wpAnyF P md ops Q S L (fuel + 1) listed a w :=
  ⟨fun h0 => (by rw [h0] at hr; cases hr), fun j hj => by rw [hr] at hj; simp at hj; subst hj; simp only [if_neg hi]; exact h⟩
theorem twoF (i j : Nat) {fuel : Nat} {listed : Array Bool} {a : Act} {w : World} (hr : Region.ready md ops listed = [i, j]) (hi : i ≠ L) (hj : j ≠ L)
    (h : wpOp P ops Q i (fun a' w' => S w' ∧ wpAnyF P md ops Q S L fuel (listed.setIfInBounds i true) a' w') a w)
    (k : wpOp P ops Q j (fun a' w' => S w' ∧ wpAnyF P md ops Q S L fuel (listed.setIfInBounds j true) a' w') a w) : wpAnyF P md ops Q S L (fuel + 1) listed a w :=
  ⟨fun h0 => (by rw [h0] at hr; cases hr), fun x hx => by
    rw [hr] at hx
    simp only [List.mem_cons, List.not_mem_nil, or_false] at hx
    rcases hx with rfl | rfl
    · simp only [if_neg hi]; exact h
    · simp only [if_neg hj]; exact k⟩
theorem lastF {fuel : Nat} {listed : Array Bool} {a : Act} {w : World} (hr : Region.ready md ops listed = [L]) (hz : Region.ready md ops (listed.setIfInBounds L true) = [])
    (h : wpOp P ops Q L (fun a' w' => Q .normal a' w') a w) : wpAnyF P md ops Q S L (fuel + 1) listed a w :=
  ⟨fun h0 => (by rw [h0] at hr; cases hr), fun j hj => by rw [hr] at hj; simp at hj; subst hj; simp only [if_true]; exact wpOp_mono (fun _ _ hQ => ⟨hz, hQ⟩) h⟩
theorem region_F {id : Nat} {a : Act} {w : World} (S : World → Prop) (L : Nat) (hm : P.follows .mixedOrders = true)
    (h : wpAnyF P .any ops Q S L ops.size (Array.replicate ops.size false) a { w with drawn := w.drawn + 1 }) : (Code.region id ops true).wp P Q a w :=
  wp_region_any hm (wpAny_of_F _ _ _ _ h)
end
end Go.Proofs.Ytmjfmfelbmbniaa.RG

/- A region that draws its order, whose operations only read and whose callees only make memory: one walk in the order of the text. Plain lemmas over any program. -/
namespace Go.Proofs.Ytmjfmfelbmbniaa.QB
open Go.RowKit Go.Maps HK
set_option linter.unusedVariables false
theorem region {P : Program} (B : World) {id : Nat} {Q : Exit → Act → World → Prop} {a : Act} {w : World} {l : List Oper} (hm : P.follows .mixedOrders = true) (hB : Region.lexB .any l.toArray = true) (hC : Below B.heap.size B w)
    (h : wpQuiet P l.toArray (fun W => Below B.heap.size B W) (fun a' => ∀ w', Below B.heap.size B w' → Q .normal a' w') l a) : (Code.region id l.toArray true).wp P Q a w :=
  wp_region_quiet (C := fun W => Below B.heap.size B W) hm hB ⟨hC.os, hC.tape, hC.output, hC.size, hC.block⟩ (by simpa using h)
section
variable {P : Program} {ops : Array Oper} {C : World → Prop} {Q : Act → Prop} {a : Act} {o : Oper} {rest : List Oper} {v : Value}
theorem step (hw : Region.wanted o (yielded ops a.tmps) = true) (h : ∀ W, C W → o.quietAt P a C W v) (h2 : wpQuiet P ops C Q rest (a.put o.dst v)) : wpQuiet P ops C Q (o :: rest) a :=
  wpQuiet_step fun K hK => by rw [if_pos hw]; exact ⟨v, h, hK _ h2⟩
theorem skip (hw : Region.wanted o (yielded ops a.tmps) = false) (h : wpQuiet P ops C Q rest (a.put o.dst undef)) : wpQuiet P ops C Q (o :: rest) a :=
  wpQuiet_step fun K hK => by rw [if_neg (by rw [hw]; exact Bool.false_ne_true)]; exact hK _ h
end
end Go.Proofs.Ytmjfmfelbmbniaa.QB

/- A region that draws its order: a narrower condition on the world from some point on; an operation with a guard. Plain lemmas over any program. -/
namespace Go.Proofs.Ytmjfmfelbmbniaa.RG
set_option linter.unusedVariables false
set_option linter.unusedSimpArgs false
section
variable {P : Program} {md : Region.Mode} {ops : Array Oper} {Q : Exit → Act → World → Prop} {S S' : World → Prop}
theorem wpOp_wanted {i : Nat} {o : Oper} {K : Act → World → Prop} {a : Act} {w : World} (ho : ops[i]? = some o) (hw : Region.wanted o (yielded ops a.tmps) = true) (h : ∀ K' : Act → World → Prop, (∀ a w, K a w → K' a w) → o.wp P a w K' Q) : wpOp P ops Q i K a w := by
  unfold wpOp
  rw [ho]
  simp only [hw, if_true]
  exact .inl (h K fun _ _ h => h)
theorem takeH (i : Nat) {oi : Oper} {v : Value} {fuel : Nat} {listed : Array Bool} {a : Act} {w : World} (hi : ops[i]? = some oi)
    (hs : Region.noSelect ops = true) (hf : Region.free md ops listed i = true) (hr : (Region.ready md ops listed).contains i = true)
    (hQ : ∀ c a w, Q (.panic c) (a.put oi.dst v) w → Q (.panic c) a w) (hy : YieldsIf P ops S oi v a) (hS : S w)
    (h : wpAnyH P md ops Q S fuel (listed.setIfInBounds i true) (a.put oi.dst v) w) : wpAnyH P md ops Q S (fuel + 1) listed a w :=
  wpAnyH_take hi hs hf hr hQ hy hS h
end
end Go.Proofs.Ytmjfmfelbmbniaa.RG

/- A region that draws and whose last operation writes: an operation for which the last one waits by way of another one. Plain lemmas over any program. -/
namespace Go.Proofs.Ytmjfmfelbmbniaa.RG
set_option linter.unusedVariables false
set_option linter.unusedSimpArgs false
section
variable {P : Program} {ops : Array Oper} {Q : Exit → Act → World → Prop} {md : Region.Mode} {S : World → Prop} {L : Nat}
end
end Go.Proofs.Ytmjfmfelbmbniaa.RG
