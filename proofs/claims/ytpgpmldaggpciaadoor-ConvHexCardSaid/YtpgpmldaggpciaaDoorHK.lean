/- What one block of memory holds. Plain lemmas over any program. -/
import Derived.WalkKit
import Derived.WalkSpells
import Derived.Lib.Hide
import Derived.RowKit
namespace Go.Proofs.YtpgpmldaggpciaaDoor.HK
open Go.RowKit
set_option linter.unusedVariables false
set_option linter.unusedSectionVars false

/-- Block b holds just these cells, of this type, none of them marked. -/
def Blk (w : World) (b : Nat) (t : TypeId) (cs : List Value) : Prop := w.heap[b]? = some (.cells cs.toArray t (0, 0))

section
variable {w w' : World} {b : Nat} {t : TypeId} {cs : List Value}
theorem Blk.lt (h : Blk w b t cs) : b < w.heap.size := (Array.getElem?_eq_some_iff.1 h).1
theorem Blk.of (h : Blk w b t cs) (e : w'.heap[b]? = w.heap[b]?) : Blk w' b t cs := e.trans h
theorem Blk.cell (h : Blk w b t cs) (i : Nat) (v : Value) (hi : cs[i]? = some v) : w.cell? ⟨b, i, none⟩ = some v := by
  simp [World.cell?, show w.heap[b]? = _ from h, hi]
theorem Blk.frozen (h : Blk w b t cs) (i : Nat) : w.frozen? ⟨b, i, none⟩ = false := by
  simp [World.frozen?, show w.heap[b]? = _ from h]
theorem Blk.ne {c : Nat} {u : TypeId} {ds : List Value} (h : Blk w b t cs) (k : Blk w c u ds) (hne : t ≠ u) : b ≠ c := by
  rintro rfl
  have := (show w.heap[b]? = _ from h).symm.trans k
  simp at this
  exact hne this.2
theorem Blk.inj {u : TypeId} {ds : List Value} (h : Blk w b t cs) (k : Blk w b u ds) : t = u ∧ cs = ds := by
  have := (show w.heap[b]? = _ from h).symm.trans k
  simp at this
  exact ⟨this.2, this.1⟩
theorem Blk.setSame (h : Blk w b t cs) (i : Nat) (v : Value) : Blk (w.setCell ⟨b, i, none⟩ v) b t (cs.set i v) := by
  unfold Blk World.setCell
  simp only [Array.getElem?_modify, if_true, show w.heap[b]? = _ from h, Option.map_some]
  simp
theorem Blk.setOther (h : Blk w b t cs) {a : Addr} (hne : b ≠ a.block) (v : Value) : Blk (w.setCell a v) b t cs :=
  h.of (Below.heap_setCell _ _ _ _ hne)
theorem Blk.alloc (h : Blk w b t cs) (o : Obj) : Blk (w.alloc o) b t cs := h.of (Below.heap_alloc _ _ _ h.lt)
theorem Blk.new (w : World) (cs : List Value) (t : TypeId) : Blk (w.alloc (.cells cs.toArray t)) w.heap.size t cs := by
  unfold Blk World.alloc; simp
end


/-- What is known behind calls: two parameters' blocks, the result's, and that nothing older has changed. -/
structure D3 (w : World) (t : TypeId) (k n : Int) (s : ByteArray) (k2 n2 : Int) (s2 : ByteArray) (W : World) : Prop where
  sz : w.heap.size + 3 ≤ W.heap.size
  bel : Below w.heap.size w W
  A : Blk W w.heap.size t [.int .i64 k, .int .i64 n, .string s]
  B : Blk W (w.heap.size + 1) t [.int .i64 k2, .int .i64 n2, .string s2]
  R : Blk W (w.heap.size + 1 + 1) t [.int .i64 0, .int .i64 0, .string ⟨#[]⟩]
section
variable {w W W' : World} {t : TypeId} {k n k2 n2 : Int} {s s2 : ByteArray}
theorem D3.on (h : D3 w t k n s k2 n2 s2 W) (hb : Below W.heap.size W W') : D3 w t k n s k2 n2 s2 W' :=
  ⟨Nat.le_trans h.sz hb.size, h.bel.trans (hb.mono h.bel.size), h.A.of (hb.block _ h.A.lt), h.B.of (hb.block _ h.B.lt), h.R.of (hb.block _ h.R.lt)⟩
theorem D3.start (w : World) (t : TypeId) (k n : Int) (s : ByteArray) (k2 n2 : Int) (s2 : ByteArray) :
    D3 w t k n s k2 n2 s2 (((w.alloc (.cells #[.int .i64 k, .int .i64 n, .string s] t)).alloc (.cells #[.int .i64 k2, .int .i64 n2, .string s2] t)).alloc (.cells #[.int .i64 0, .int .i64 0, .string ⟨#[]⟩] t)) := by
  have h1 := Blk.new w [.int .i64 k, .int .i64 n, .string s] t
  have h2 := Blk.new (w.alloc (.cells #[.int .i64 k, .int .i64 n, .string s] t)) [.int .i64 k2, .int .i64 n2, .string s2] t
  have h3 := Blk.new ((w.alloc (.cells #[.int .i64 k, .int .i64 n, .string s] t)).alloc (.cells #[.int .i64 k2, .int .i64 n2, .string s2] t)) [.int .i64 0, .int .i64 0, .string ⟨#[]⟩] t
  refine ⟨by simp, (((Below.refl _ _).alloc (Nat.le_refl _) _).alloc (by simp) _).alloc (by simp; omega) _, (h1.alloc _).alloc _, by simpa using h2.alloc _, by simpa using h3⟩
/-- The result's three cells are written. -/
theorem D3.put (h : D3 w t k n s k2 n2 s2 W) (a b : Int) (c : ByteArray) :
    Blk (((W.setCell ⟨w.heap.size + 1 + 1, 0, none⟩ (.int .i64 a)).setCell ⟨w.heap.size + 1 + 1, 1, none⟩ (.int .i64 b)).setCell ⟨w.heap.size + 1 + 1, 2, none⟩ (.string c)) (w.heap.size + 1 + 1) t [.int .i64 a, .int .i64 b, .string c] ∧
    Below w.heap.size w (((W.setCell ⟨w.heap.size + 1 + 1, 0, none⟩ (.int .i64 a)).setCell ⟨w.heap.size + 1 + 1, 1, none⟩ (.int .i64 b)).setCell ⟨w.heap.size + 1 + 1, 2, none⟩ (.string c)) :=
  ⟨((h.R.setSame 0 _).setSame 1 _).setSame 2 _, ((h.bel.setCell (by simp; omega) _).setCell (by simp; omega) _).setCell (by simp; omega) _⟩
end
end Go.Proofs.YtpgpmldaggpciaaDoor.HK
