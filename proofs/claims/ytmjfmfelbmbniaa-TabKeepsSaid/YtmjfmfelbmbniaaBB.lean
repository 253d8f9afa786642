/- Texts of layers 12 to 14, one behind the other: plain models, what stands in memory, the functions' contracts. -/
import Derived.Test.YtmjfmfelbmbniaaBA
/- Layer 12: the reference's tree as it lies in memory; the calls that only read it. -/
namespace Go.Proofs.Ytmjfmfelbmbniaa
open Go.RowKit Go.Maps HK ShM
set_option linter.unusedVariables false
set_option linter.unusedSimpArgs false
attribute [local go_sem ↓] run_max_two run_min_two
structure RefIn (w : World) (X : Nat → Prop) (rb : Nat) (D F : Int) (nm : List ByteArray) (T : List Sh) (nv : Value) (sb sc pb pc : Nat) (kv : Nat → Value) : Prop where
  hd : Blk w rb 48 [.int .i64 D, .int .i64 F, nv, .slice (some ⟨sb, 0, none⟩) T.length sc, .slice (some ⟨pb, 0, none⟩) T.length pc]
  nms : Strs w nv nm
  rows : w.ownsRow 0 22 1 (.slice (some ⟨sb, 0, none⟩) T.length sc) T.length ((List.range T.length).map kv)
  keys : ∀ i, i < T.length → Strs w (kv i) (ksOf T i)
  par : w.ownsRow 0 3 1 (.slice (some ⟨pb, 0, none⟩) T.length pc) T.length (T.map fun s => .int .i64 s.2)
  wf : WF D T
  nm64 : nm.length ≤ 64
  ownR : X rb
  ownS : X sb
  ownP : X pb
  ownN : ∀ g, nv.ownBlock = some g → X g
  ownK : ∀ i, i < T.length → ∀ g, (kv i).ownBlock = some g → X g
  lt : ∀ b, X b → b < w.heap.size
def RefAt (w : World) (X : Nat → Prop) (rb : Nat) (D F : Int) (nm : List ByteArray) (T : List Sh) : Prop := ∃ nv sb sc pb pc kv, RefIn w X rb D F nm T nv sb sc pb pc kv
section
variable {w w' : World} {X : Nat → Prop} {rb : Nat} {D F : Int} {nm : List ByteArray} {T : List Sh} {nv : Value} {sb sc pb pc : Nat} {kv : Nat → Value}
theorem RefIn.of (h : RefIn w X rb D F nm T nv sb sc pb pc kv) (hs : w.heap.size ≤ w'.heap.size) (hb : ∀ b, X b → w'.heap[b]? = w.heap[b]?) : RefIn w' X rb D F nm T nv sb sc pb pc kv :=
  { h with
    hd := h.hd.of (hb _ h.ownR)
    nms := ownsRow_of h.nms (fun g hg => hb _ (h.ownN g hg))
    rows := ownsRow_of h.rows (fun g hg => by cases hg; exact hb _ h.ownS)
    keys := fun i hi => ownsRow_of (h.keys i hi) (fun g hg => hb _ (h.ownK i hi g hg))
    par := ownsRow_of h.par (fun g hg => by cases hg; exact hb _ h.ownP)
    lt := fun b hB => Nat.lt_of_lt_of_le (h.lt b hB) hs }
theorem RefAt.of (h : RefAt w X rb D F nm T) (hs : w.heap.size ≤ w'.heap.size) (hb : ∀ b, X b → w'.heap[b]? = w.heap[b]?) : RefAt w' X rb D F nm T := by
  obtain ⟨nv, sb, sc, pb, pc, kv, h⟩ := h; exact ⟨nv, sb, sc, pb, pc, kv, h.of hs hb⟩
theorem RefAt.below (h : RefAt w X rb D F nm T) (hb : Below w.heap.size w w') : RefAt w' X rb D F nm T := by
  obtain ⟨nv, sb, sc, pb, pc, kv, h⟩ := h; exact ⟨nv, sb, sc, pb, pc, kv, h.of hb.size fun b hB => hb.block b (h.lt b hB)⟩
theorem RefIn.cell_row (h : RefIn w X rb D F nm T nv sb sc pb pc kv) (i : Nat) (hi : i < T.length) : w.cell? ⟨sb, i, none⟩ = some (kv i) := by
  have := h.rows.cells (g := sb) rfl i (kv i) (by simp [hi])
  rwa [addr0] at this
theorem wrap64 (x : Nat) : IntKind.wrap .u64 (x : Int) = ((x % 2 ^ 64 : Nat) : Int) := by
  unfold IntKind.wrap
  simp [IntKind.bits, IntKind.signed]
end
end Go.Proofs.Ytmjfmfelbmbniaa

/- Layer 12: the reference's tree, a key added. -/
namespace Go.Proofs.Ytmjfmfelbmbniaa
open Go.RowKit Go.Maps HK ShM
set_option linter.unusedVariables false
set_option linter.unusedSimpArgs false
attribute [local go_sem ↓] run_max_two run_min_two
theorem info3 : (Try.prog.info? 3).map (fun i => (i.zero, i.size, i.bytes)) = some (some (.int .i64 0), 1, 8) := by kernel_rfl
/-- What the world is, but for the row of shapes, which may have grown. -/
structure SA (w : World) (sb k : Nat) (v : Value) (W : World) : Prop where
  chg : Chg (fun b => b = sb) w W
  row : W.cell? ⟨sb, k, none⟩ = some v
def RefGrown (X : Nat → Prop) (w w' : World) (rb : Nat) (D F : Int) (nm : List ByteArray) (T' : List Sh) : Prop := ∃ X', RefAt w' X' rb D F nm T' ∧ Chg X w w' ∧ ∀ b, X' b → X b ∨ w.heap.size ≤ b
theorem RefGrown.same {X : Nat → Prop} {w : World} {rb : Nat} {D F : Int} {nm : List ByteArray} {T : List Sh} (h : RefAt w X rb D F nm T) : RefGrown X w w rb D F nm T := ⟨X, h, Chg.refl _ _, fun b hb => .inl hb⟩
section
variable {w : World} {X : Nat → Prop} {rb : Nat} {D F : Int} {nm : List ByteArray} {T : List Sh} {nv : Value} {sb sc pb pc : Nat} {kv : Nat → Value}
theorem blk_ne_row {w : World} {b g base : Nat} {t e : TypeId} {cs : List Value} {v : Value} {n size : Nat} {xs : List Value} (h : Blk w b t cs) (k : w.ownsRow base e size v n xs) (hg : v.ownBlock = some g) (hne : t ≠ e) : b ≠ g := by
  rintro rfl
  obtain ⟨cs2, fr, e2⟩ := ownsRow_typed k b hg
  have := (show w.heap[b]? = _ from h).symm.trans e2
  simp at this
  exact hne this.2.1
theorem row_ne_row {w : World} {b g base base' : Nat} {t e : TypeId} {v v' : Value} {n size n' size' : Nat} {xs xs' : List Value} (h : w.ownsRow base' t size' v' n' xs') (k : w.ownsRow base e size v n xs) (hb : v'.ownBlock = some b) (hg : v.ownBlock = some g) (hne : t ≠ e) : b ≠ g := by
  rintro rfl
  obtain ⟨cs1, fr1, e1⟩ := ownsRow_typed h b hb
  obtain ⟨cs2, fr, e2⟩ := ownsRow_typed k b hg
  have := e1.symm.trans e2
  simp at this
  exact hne this.2.1
theorem RefIn.grow (h : RefIn w X rb D F nm T nv sb sc pb pc kv) (k : Nat) (hk : k < T.length) (z : ByteArray) (hT' : WF D (T ++ [(ksOf T k ++ [z], (k : Int))])) (W : World) (g8 c8 g10 c10 : Nat) (v6 : Value)
    (hC : Chg (fun b => b = rb ∨ b = sb ∨ b = pb) w W)
    (hhd : Blk W rb 48 [.int .i64 D, .int .i64 F, nv, .slice (some ⟨g8, 0, none⟩) (T.length + 1) c8, .slice (some ⟨g10, 0, none⟩) (T.length + 1) c10])
    (hrows : W.ownsRow 0 22 1 (.slice (some ⟨g8, 0, none⟩) (T.length + 1) c8) (T.length + 1) ((List.range T.length).map kv ++ [v6]))
    (hpar : W.ownsRow 0 3 1 (.slice (some ⟨g10, 0, none⟩) (T.length + 1) c10) (T.length + 1) ((T.map fun s => .int .i64 s.2) ++ [.int .i64 k]))
    (hv6 : Strs W v6 (ksOf T k ++ [z])) (f6 : ∀ q, v6.ownBlock = some q → w.heap.size ≤ q) (f8 : g8 = sb ∨ w.heap.size ≤ g8) (f10 : g10 = pb ∨ w.heap.size ≤ g10) :
    RefGrown X w W rb D F nm (T ++ [(ksOf T k ++ [z], (k : Int))]) := by
  have hlen : (T ++ [(ksOf T k ++ [z], (k : Int))]).length = T.length + 1 := by simp
  have hstr : ∀ {v : Value} {l : List ByteArray}, Strs w v l → Strs W v l := fun {v l} hs => ownsRow_of hs (fun g hg => hC.block g (hs.lt g hg).2 (by
    rintro (e | e | e)
    · exact blk_ne_row h.hd hs hg (by decide) e.symm
    · exact row_ne_row hs h.rows hg rfl (by decide) e
    · exact row_ne_row hs h.par hg rfl (by decide) e))
  have lt8 := (hrows.lt g8 rfl).2
  have lt10 := (hpar.lt g10 rfl).2
  refine ⟨fun b => X b ∨ w.heap.size ≤ b ∧ b < W.heap.size, ⟨nv, g8, c8, g10, c10, fun i => if i = T.length then v6 else kv i, ?_⟩, hC.mono (fun b _ e => by rcases e with rfl | rfl | rfl; exact h.ownR; exact h.ownS; exact h.ownP), fun b hb => hb.imp id And.left⟩
  exact {
    hd := by rw [hlen]; exact hhd
    nms := hstr h.nms
    rows := by
      rw [hlen, List.range_succ, List.map_append]
      have e : (List.range T.length).map (fun i => if i = T.length then v6 else kv i) = (List.range T.length).map kv := by
        apply List.map_congr_left
        intro i hi
        rw [if_neg (by have := List.mem_range.1 hi; omega)]
      rw [e]
      simpa using hrows
    keys := fun i hi => by
      rw [hlen] at hi
      by_cases e : i = T.length
      · subst e
        simp only [if_true]
        rw [show ksOf (T ++ [(ksOf T k ++ [z], (k : Int))]) T.length = ksOf T k ++ [z] by unfold ksOf; rw [ShM.getD_snoc]]
        exact hv6
      · have hi' : i < T.length := by omega
        simp only [if_neg e]
        rw [show ksOf (T ++ [(ksOf T k ++ [z], (k : Int))]) i = ksOf T i by unfold ksOf; rw [getD_append_left hi']]
        exact hstr (h.keys i hi')
    par := by rw [hlen, List.map_append]; exact hpar
    wf := hT'
    nm64 := h.nm64
    ownR := .inl h.ownR
    ownS := by rcases f8 with rfl | f; exact .inl h.ownS; exact .inr ⟨f, lt8⟩
    ownP := by rcases f10 with rfl | f; exact .inl h.ownP; exact .inr ⟨f, lt10⟩
    ownN := fun g hg => .inl (h.ownN g hg)
    ownK := fun i hi g hg => by
      rw [hlen] at hi
      by_cases e : i = T.length
      · subst e
        simp only [if_true] at hg
        exact .inr ⟨f6 g hg, (hv6.lt g hg).2⟩
      · simp only [if_neg e] at hg
        exact .inl (h.ownK i (by omega) g hg)
    lt := fun b hb => by rcases hb with hb | hb; exact Nat.lt_of_lt_of_le (h.lt b hb) hC.size; exact hb.2 }
theorem RefIn.sp (h : RefIn w X rb D F nm T nv sb sc pb pc kv) : sb ≠ pb := row_ne_row h.rows h.par rfl rfl (by decide)
end
section
variable {w : World} {X : Nat → Prop} {rb : Nat} {D F : Int} {nm : List ByteArray} {T : List Sh}
theorem addM_kidAt {k j : Nat} {z : ByteArray} (hk : k < T.length) (hm : z ∉ ksOf T k) (h : kidFrom T 0 k z = some j) : addM D F T k z = ⟨j, true, T⟩ := by
  unfold addM
  rw [if_neg (by omega)]
  dsimp only
  rw [if_neg (show ¬ z ∈ (T.getD (k : Int).toNat ([], 0)).1 by rw [Int.toNat_natCast]; exact hm), h]
theorem addM_new {k : Nat} {z : ByteArray} (hk : k < T.length) (hm : z ∉ ksOf T k) (h : kidFrom T 0 k z = none) : addM D F T k z = if D ≤ (ksOf T k).length ∨ F ≤ kidCount T k ∨ 4096 ≤ T.length then ⟨0, false, T⟩ else ⟨T.length, true, T ++ [(ksOf T k ++ [z], (k : Int))]⟩ := by
  unfold addM
  rw [if_neg (by omega)]
  dsimp only
  rw [if_neg (show ¬ z ∈ (T.getD (k : Int).toNat ([], 0)).1 by rw [Int.toNat_natCast]; exact hm), h]
  dsimp only
  rw [Int.toNat_natCast]
end
end Go.Proofs.Ytmjfmfelbmbniaa

/- Layer 12: the reference's tree, made. -/
namespace Go.Proofs.Ytmjfmfelbmbniaa
open Go.RowKit Go.Maps HK ShM
set_option linter.unusedVariables false
set_option linter.unusedSimpArgs false
attribute [local go_sem ↓] run_max_two run_min_two
end Go.Proofs.Ytmjfmfelbmbniaa

/- Layer 12: both trees side by side; steps behind one another; the sizes of keys. -/
namespace Go.Proofs.Ytmjfmfelbmbniaa
open Go.RowKit Go.Maps HK ShM
set_option linter.unusedVariables false
set_option linter.unusedSimpArgs false
def flatT (l : List (Int × ByteArray)) : List Value := l.flatMap fun x => [.int .i64 x.1, .string x.2]
theorem flatT_cons (x : Int × ByteArray) (l : List (Int × ByteArray)) : flatT (x :: l) = .int .i64 x.1 :: .string x.2 :: flatT l := rfl
theorem flatT_at {l : List (Int × ByteArray)} {j : Nat} {x : Int × ByteArray} (h : l[j]? = some x) : (flatT l)[j * 2]? = some (.int .i64 x.1) ∧ (flatT l)[j * 2 + 1]? = some (.string x.2) := by
  induction l generalizing j with
  | nil => simp at h
  | cons y r ih =>
    rw [flatT_cons]
    cases j with
    | zero => simp at h; subst h; exact ⟨rfl, rfl⟩
    | succ j =>
      obtain ⟨h1, h2⟩ := ih (j := j) (by simpa using h)
      rw [show (j + 1) * 2 = j * 2 + 1 + 1 by omega]
      exact ⟨by simpa using h1, by simpa using h2⟩
theorem RdT.of_row {w : World} {base : Nat} {v : Value} {l : List (Int × ByteArray)} (h : w.ownsRow base 31 2 v l.length (flatT l)) (hl : l.length ≤ 140737488355328) (hz : ∀ x ∈ l, x.2.size ≤ maxLen) : RdT w v l := by
  rcases h.2 with ⟨rfl, hn⟩ | ⟨g, cap, cur, rfl, _, hg, hc, hm, _⟩
  · obtain rfl : l = [] := List.eq_nil_of_length_eq_zero hn
    exact ⟨none, 0, rfl, Nat.le_refl _, Nat.zero_le _, Nat.zero_le _, fun j x hj => by simp at hj⟩
  · refine ⟨some ⟨g, 0, none⟩, cap, rfl, hc, hm, hl, fun j x hj => ⟨g, 0, rfl, ?_, ?_, hz x (List.mem_of_getElem? hj)⟩⟩
    · have := h.cells (g := g) rfl (j * 2) _ (flatT_at hj).1
      rw [addr0] at this
      rwa [Nat.zero_add]
    · have := h.cells (g := g) rfl (j * 2 + 1) _ (flatT_at hj).2
      rw [addr0] at this
      rwa [Nat.zero_add]
section
variable {X Y : Nat → Prop} {w0 w w' : World} {tb : Nat} {deep fan : Int} {names : List ByteArray} {T : List Sh}
theorem TBX.chg (h : TBX X w0 w tb deep fan names T) (hc : Chg X w w') (hX : ∀ b, X b → w0.heap.size ≤ b) (hY : ∀ b, Y b → X b ∨ w.heap.size ≤ b) : TBX Y w0 w' tb deep fan names T := by
  obtain ⟨B, h1, h2, h3⟩ := h
  have hlt : ∀ b, B b → b < w.heap.size := by obtain ⟨L, h1⟩ := h1; exact h1.lt
  exact ⟨B, h1.of hc.size (fun b hb => hc.block b (hlt b hb) (h2 b hb).2), fun b hb => ⟨(h2 b hb).1, fun hy => (hY b hy).elim (h2 b hb).2 (fun h => by have := hlt b hb; omega)⟩, h3.trans (hc.below h3.size hX)⟩
end
/-- Both trees of the call's own, of the same shapes. -/
def Both (w0 w : World) (tb rb : Nat) (D F : Int) (nm : List ByteArray) (T : List Sh) : Prop := ∃ X, TBX X w0 w tb D F nm T ∧ RefAt w X rb D F nm T ∧ ∀ b, X b → w0.heap.size ≤ b
section
variable {w0 w w' : World} {tb rb : Nat} {D F : Int} {nm : List ByteArray} {T : List Sh}
theorem RefAt.lt {X : Nat → Prop} (h : RefAt w X rb D F nm T) : ∀ b, X b → b < w.heap.size := by obtain ⟨_, _, _, _, _, _, h⟩ := h; exact h.lt
theorem Both.below (h : Both w0 w tb rb D F nm T) (hb : Below w.heap.size w w') : Both w0 w' tb rb D F nm T := by
  obtain ⟨X, h1, h2, h3⟩ := h
  exact ⟨X, h1.below hb, h2.below hb, h3⟩
theorem Both.bel (h : Both w0 w tb rb D F nm T) : Below w0.heap.size w0 w := by obtain ⟨X, h1, h2, h3⟩ := h; exact h1.bel
theorem Both.toTB (h : Both w0 w tb rb D F nm T) : TB w0 w tb D F nm T := by obtain ⟨X, h1, h2, h3⟩ := h; exact h1.toTB
theorem Both.ref (h : Both w0 w tb rb D F nm T) : ∃ X, RefAt w X rb D F nm T := by obtain ⟨X, h1, h2, h3⟩ := h; exact ⟨X, h2⟩
/-- .. and neither of them has a block of Z. -/
def BothX (Z : Nat → Prop) (w0 w : World) (tb rb : Nat) (D F : Int) (nm : List ByteArray) (T : List Sh) : Prop := ∃ X, TBX (fun b => X b ∨ Z b) w0 w tb D F nm T ∧ RefAt w X rb D F nm T ∧ ∀ b, X b → w0.heap.size ≤ b ∧ ¬ Z b
theorem Both.apart (h : Both w0 w tb rb D F nm T) {Z : Nat → Prop} (hZ : ∀ b, Z b → w.heap.size ≤ b) : BothX Z w0 w tb rb D F nm T := by
  obtain ⟨X, h1, h2, h3⟩ := h
  exact ⟨X, h1.weak (fun b hb => hb.imp id (hZ b)), h2, fun b hb => ⟨h3 b hb, fun hz => by have := h2.lt b hb; have := hZ b hz; omega⟩⟩
theorem BothX.both {Z : Nat → Prop} (h : BothX Z w0 w tb rb D F nm T) : Both w0 w tb rb D F nm T := by
  obtain ⟨X, h1, h2, h3⟩ := h
  exact ⟨X, h1.weak (fun b hb => .inl (.inl hb)), h2, fun b hb => (h3 b hb).1⟩
theorem BothX.below {Z : Nat → Prop} (h : BothX Z w0 w tb rb D F nm T) (hb : Below w.heap.size w w') : BothX Z w0 w' tb rb D F nm T := by
  obtain ⟨X, h1, h2, h3⟩ := h
  exact ⟨X, h1.below hb, h2.below hb, h3⟩
theorem BothX.written {Z : Nat → Prop} (h : BothX Z w0 w tb rb D F nm T) {row : Option Nat} (hg : w.grownBy w' row) (hr : ∀ g, row = some g → w0.heap.size ≤ g ∧ Z g) : BothX Z w0 w' tb rb D F nm T := by
  obtain ⟨X, h1, h2, h3⟩ := h
  exact ⟨X, h1.written hg (fun g e => ⟨(hr g e).1, .inr (hr g e).2⟩), h2.of hg.size (fun b hb => hg.block b (h2.lt b hb) (fun e => (h3 b hb).2 (hr b e.symm).2)), h3⟩
end
end Go.Proofs.Ytmjfmfelbmbniaa

/- Layer 13: a dictionary as it lies in memory; finding a key's place. -/
namespace Go.Proofs.Ytmjfmfelbmbniaa
open Go.RowKit Go.Maps HK ShM
set_option linter.unusedVariables false
set_option linter.unusedSimpArgs false
def Ent.cells : Ent → List Value
  | none => [.int .i64 0, .int .i64 0, .string Val.e, .int .i64 0, .int .i64 0, .string Val.e, .bool false]
  | some (k, v) => [.int .i64 k.k, .int .i64 k.n, .string k.s, .int .i64 v.k, .int .i64 v.n, .string v.s, .bool true]
def flatE (es : List Ent) : List Value := es.flatMap Ent.cells
theorem Ent.cells_len (x : Ent) : x.cells.length = 7 := by cases x <;> rfl
theorem flatE_len (es : List Ent) : (flatE es).length = es.length * 7 := by
  induction es with
  | nil => rfl
  | cons x r ih => rw [flatE, List.flatMap_cons, List.length_append, Ent.cells_len]; rw [flatE] at ih; rw [ih, List.length_cons]; omega
theorem flatE_at : ∀ {es : List Ent} {i c : Nat} {x : Ent}, es[i]? = some x → c < 7 → (flatE es)[i * 7 + c]? = x.cells[c]?
  | [], i, c, x, h, hc => by simp at h
  | y :: r, 0, c, x, h, hc => by
    simp at h; subst h
    rw [flatE, List.flatMap_cons, Nat.zero_mul, Nat.zero_add, List.getElem?_append_left (by rw [Ent.cells_len]; exact hc)]
  | y :: r, i + 1, c, x, h, hc => by
    rw [flatE, List.flatMap_cons, List.getElem?_append_right (by rw [Ent.cells_len]; omega), Ent.cells_len, show (i + 1) * 7 + c - 7 = i * 7 + c by omega]
    exact flatE_at (es := r) (by simpa using h) hc
structure DMem (w : World) (d : Nat) (ev : Value) (tb : Nat) (T : List Nat) (es : List Ent) (dr lv : Int) : Prop where
  hd : Blk w d 185 [ev, .slice (some ⟨tb, 0, none⟩) T.length T.length, .int .i64 dr, .int .i64 lv]
  rows : w.ownsRow 0 190 7 ev es.length (flatE es)
  tab : Blk w tb 3 (T.map fun x => .int .i64 (x : Nat))
section
variable {w w' : World} {d tb : Nat} {ev : Value} {T : List Nat} {es : List Ent} {dr lv : Int}
theorem DMem.of (h : DMem w d ev tb T es dr lv) (h1 : w'.heap[d]? = w.heap[d]?) (h2 : w'.heap[tb]? = w.heap[tb]?) (h3 : ∀ g, ev.ownBlock = some g → w'.heap[g]? = w.heap[g]?) : DMem w' d ev tb T es dr lv :=
  ⟨h.hd.of h1, ownsRow_of h.rows h3, h.tab.of h2⟩
theorem DMem.below (h : DMem w d ev tb T es dr lv) (hb : Below w.heap.size w w') : DMem w' d ev tb T es dr lv :=
  h.of (hb.block _ h.hd.lt) (hb.block _ h.tab.lt) (fun g hg => hb.block _ (h.rows.lt g hg).2)
theorem DMem.cell_tab (h : DMem w d ev tb T es dr lv) {p : Nat} (hp : p < T.length) : w.cell? ⟨tb, p, none⟩ = some (.int .i64 (T.getD p 0 : Nat)) :=
  h.tab.cell p _ (by simp [hp, List.getD])
theorem DMem.cell_ent (h : DMem w d ev tb T es dr lv) {i : Nat} {x : Ent} (hx : es[i]? = some x) : ∃ g cap, ev = .slice (some ⟨g, 0, none⟩) es.length cap ∧ es.length ≤ cap ∧ cap ≤ maxLen ∧ ∀ c u, c < 7 → x.cells[c]? = some u → w.cell? ⟨g, i * 7 + c, none⟩ = some u := by
  rcases h.rows.2 with ⟨_, hn⟩ | ⟨g, cap, cur, rfl, _, _, hc, hm, _⟩
  · rw [List.eq_nil_of_length_eq_zero hn] at hx; simp at hx
  · refine ⟨g, cap, rfl, hc, hm, fun c u hc7 hu => ?_⟩
    have := h.rows.cells (g := g) rfl (i * 7 + c) u (by rw [flatE_at hx hc7, hu])
    rwa [addr0] at this
theorem wrap64_eq (x : Int) : RowKit.wrap64 x = IntKind.i64.wrap x := (IntWalk.i64_left x).symm
def far (n q p : Nat) : Nat := if p ≤ q then q - p else q + n - p
theorem far_step (n q p : Nat) (hq : q < n) (hp : p < n) (hne : p ≠ q) : far n q ((p + 1) % n) < far n q p := by
  unfold far
  rcases Nat.lt_or_ge (p + 1) n with h | h
  · rw [Nat.mod_eq_of_lt h]; split <;> split <;> omega
  · rw [show p + 1 = n by omega, Nat.mod_self]; split <;> split <;> omega
theorem far_lt (n q p : Nat) (hq : q < n) (hp : p < n) : far n q p < n := by unfold far; split <;> omega
set_option maxHeartbeats 4000000 in
set_option maxRecDepth 20000 in
theorem find_calls (h : DMem w d ev tb T es dr lv) (hpow : ∃ m, T.length = 2 ^ m) (hbig : 8 ≤ T.length) (htop : T.length ≤ 1048576) (hle : ∀ x ∈ T, x ≤ es.length) (hz : ∃ q, q < T.length ∧ T.getD q 0 = 0) (k : Val) (hk : k.s.size ≤ maxLen) :
    Calls Try.prog 111 #[.pointer (some ⟨d, 0, none⟩), k.v] w fun e w' => e = .returned (.tuple #[.int .i64 ((findM T es k).1 : Nat), .int .i64 (findM T es k).2]) ∧ Below w.heap.size w w' := by
  obtain ⟨q, hq, hz⟩ := hz
  have hs := start_spec k T.length (by omega) (by omega)
  have HH := Lib.hid (fun (W : World) => hash_calls k hk W)
  have HF : Hid (findM T es k = probe T es k T.length (startM k T.length)) := Lib.hid rfl
  have HBIT := Lib.hid hs.1
  have HNX := Lib.hid (fun (p : Nat) (hp : p < T.length) => and_next T.length p hpow (by omega) hp)
  have HM := Lib.hid h
  have HT : Hid (∀ p, p < T.length → ∃ y, w.cell? ⟨tb, p, none⟩ = some (.int .i64 (T.getD p 0 : Nat)) ∧ T.getD p 0 = y ∧ y ≤ es.length) := Lib.hid (fun p hp => ⟨_, h.cell_tab hp, rfl, hle _ (by simp [List.getD, hp])⟩)
  have HS0 : Hid (startM k T.length < T.length) := Lib.hid hs.2
  have HZ := Lib.hid hz
  have HFS := Lib.hid (fun (p : Nat) (hp : p < T.length) (hne : p ≠ q) => far_step T.length q p hq hp hne)
  have HFL := Lib.hid (fun (p : Nat) (hp : p < T.length) => far_lt T.length q p hq hp)
  obtain ⟨ea, ec, hev⟩ := ownsRow_form h.rows
  subst hev
  have c0 := h.hd.cell 0 _ rfl
  have c1 := h.hd.cell 1 _ rfl
  obtain ⟨n, hn⟩ : ∃ n, n = T.length := ⟨_, rfl⟩
  have EN := Lib.hid hn
  rw [← hn] at c1 hbig htop hq
  rw [← hn] at HBIT HNX HT HS0 HFS HFL
  clear hn hs h hk hle hz hpow
  obtain ⟨k1, k2, k3⟩ := k
  have hb0 : Below w.heap.size w (w.alloc (.cells #[.int .i64 k1, .int .i64 k2, .string k3] 57)) := by (repeat (first | exact Below.refl _ _ | (refine Below.alloc ?_ (by simp <;> omega) _) | (refine Below.setCell ?_ (by simp <;> omega) _)))
  have hbx : Blk (w.alloc (.cells #[.int .i64 k1, .int .i64 k2, .string k3] 57)) w.heap.size 57 [.int .i64 k1, .int .i64 k2, .string k3] := Blk.new w [.int .i64 k1, .int .i64 k2, .string k3] 57
  have c1' := (hb0.cell (World.block_lt_of_cell? w _ c1)).trans c1
  have HC0 := Lib.hid c0
  have HC1 := Lib.hid c1
  have HB0 := Lib.hid hb0
  have HBX := Lib.hid hbx
  clear c0 c1 hb0 hbx
  go_enter Try.func111, Try.ntmps111
  go_wp2_with (go_at_call 148; (with_reducible refine (HH.out _).mono ?_); rintro e w1 ⟨rfl, hb⟩)
  have HB1 := Lib.hid (HB0.out.trans (hb.mono HB0.out.size))
  have HM1 := Lib.hid (HM.out.below HB1.out)
  have hx1 := HBX.out.of (hb.block _ HBX.out.lt)
  have x0 := hx1.cell 0 _ rfl
  have x1 := hx1.cell 1 _ rfl
  have x2 := hx1.cell 2 _ rfl
  have c0 := HM1.out.hd.cell 0 _ rfl
  have c1 := HM1.out.hd.cell 1 _ rfl
  rw [← EN.out] at c1

  clear hb hx1 HBX HB0 HC0 HC1 c1' HH
  go_loopw [4] (fun pv wr => ∃ p f n1 : Nat, p < n ∧ far n q p < f ∧ pv = .int .i64 p ∧ wr = w1.drewN n1 ∧ Hid (findM T es ⟨k1, k2, k3⟩ = probe T es ⟨k1, k2, k3⟩ f p)) (fun pv _ => far n q (intOf pv).toNat)
  case atStart =>
    exact ⟨_, n, 0, HS0.out, HFL.out _ HS0.out, by rw [← HBIT.out, ← wrap64_eq], rfl, Lib.hid (by rw [HF.out, ← EN.out])⟩
  case round =>
    obtain ⟨p, f, n1, hp, hf, rfl, rfl, hfd⟩ := hrel
    obtain ⟨f, rfl⟩ : ∃ g, f = g + 1 := ⟨f - 1, by omega⟩
    have hcp := HM1.out.cell_tab (p := p) (by rw [← EN.out]; exact hp)
    have hp0 : (0 : Int) ≤ (p : Int) := by omega
    have hp1 : (p : Int) < (n : Int) := by omega
    have hle := (HT.out p hp)
    obtain ⟨y, _, hy, hyl⟩ := hle
    have HY := Lib.hid hy
    rw [hy] at hcp
    unfold probe at hfd
    rw [hy] at hfd
    clear hy
    by_cases h0 : y = 0
    · subst h0
      have HR : Hid (findM T es ⟨k1, k2, k3⟩ = (p, -1)) := Lib.hid (by rw [hfd.out, if_pos rfl])
      clear hfd
      go_wp2_with fail
      go_ret2
      exact ⟨by rw [HR.out]; rfl, Below.drewN HB1.out _⟩
    · have hpq : p ≠ q := by rintro rfl; exact h0 (HY.out.symm.trans HZ.out)
      obtain ⟨x, rfl⟩ : ∃ x, y = x + 1 := ⟨y - 1, by omega⟩
      have hxl : x < es.length := by omega
      obtain ⟨y, hxy⟩ : ∃ y, es[x]? = some y := ⟨_, List.getElem?_eq_getElem hxl⟩
      have hyD : es.getD x none = y := by rw [List.getD_eq_getElem?_getD, hxy]; rfl
      obtain ⟨g, cap, heq, hc1, hc2, hcell⟩ := HM1.out.cell_ent hxy
      cases heq
      have hc2' : ec ≤ 9223372036854775807 := hc2
      rw [Nat.add_sub_cancel, hyD, if_neg h0] at hfd
      have hx0 : (0 : Int) ≤ (x : Int) := by omega
      have hx1 : (x : Int) < (es.length : Int) := by omega
      have hcp' : w1.cell? ⟨tb, p, none⟩ = some (.int .i64 ((x : Int) + 1)) := by rw [hcp]; simp
      have HFN := Lib.hid (HFS.out p hp hpq)
      have HPN := Lib.hid (HNX.out p hp)
      have HEN := Lib.hid hyD
      have HL2 : Hid (n ≤ 1048576) := Lib.hid htop
      clear hyD h0 hc2 hcp hxy hpq
      generalize es.length = m at *
      cases y with
      | none =>
        have u0 := hcell 6 _ (by decide) rfl
        go_wp2_with fail
        go_quiet (fail)
        go_wp2
        go_roundw
        case rel =>
          refine ⟨(p + 1) % n, f, _, Nat.mod_lt _ (by omega), by have := HFN.out; omega, by rw [HPN.out], rfl, Lib.hid ?_⟩
          rw [hfd.out, if_neg (by simp), ← EN.out]
        case measure =>
          rw [HPN.out]
          show far n q ((((p + 1) % n : Nat) : Int)).toNat < far n q ((p : Nat) : Int).toNat
          rw [Int.toNat_natCast, Int.toNat_natCast]
          exact HFN.out
      | some kv =>
        obtain ⟨⟨a1, a2, a3⟩, v⟩ := kv
        have u0 := hcell 6 _ (by decide) rfl
        have u1 := hcell 0 _ (by decide) rfl
        have u2 := hcell 1 _ (by decide) rfl
        have u3 := hcell 2 _ (by decide) rfl
        rw [Nat.add_zero] at u1
        by_cases he : (⟨a1, a2, a3⟩ : Val) = ⟨k1, k2, k3⟩
        · cases he
          have HR : Hid (findM T es ⟨k1, k2, k3⟩ = (p, (x : Int))) := Lib.hid (by rw [hfd.out]; simp)
          clear hfd
          go_wp2_with fail
          go_quiet (fail)
          go_wp2
          go_ret2
          refine ⟨by rw [HR.out]; rfl, ?_⟩
          exact Below.drewN HB1.out _
        · have HNE := Lib.hid he
          have h3 : (a1 == k1) = false ∨ a1 = k1 ∧ ((a2 == k2) = false ∨ a2 = k2 ∧ (a3.toList == k3.toList) = false) := by
            by_cases e1 : a1 = k1
            · subst e1
              by_cases e2 : a2 = k2
              · subst e2
                exact .inr ⟨rfl, .inr ⟨rfl, str_ne _ _ (fun e => he (by rw [e]))⟩⟩
              · exact .inr ⟨rfl, .inl (by simp [e2])⟩
            · exact .inl (by simp [e1])
          clear he
          rcases h3 with h3 | ⟨rfl, h3 | ⟨rfl, h3⟩⟩
          all_goals
            go_wp2_with fail
            go_quiet (fail)
            go_wp2
            go_roundw
            case rel =>
              refine ⟨(p + 1) % n, f, _, Nat.mod_lt _ (by omega), by have := HFN.out; omega, by rw [HPN.out], rfl, Lib.hid ?_⟩
              rw [hfd.out, if_neg (fun e => HNE.out (by simpa using e)), ← EN.out]
            case measure =>
              rw [HPN.out]
              show far n q ((((p + 1) % n : Nat) : Int)).toNat < far n q ((p : Nat) : Int).toNat
              rw [Int.toNat_natCast, Int.toNat_natCast]
              exact HFN.out
end
end Go.Proofs.Ytmjfmfelbmbniaa

/- Layer 13: a dictionary's invariant; a key's entry. -/
namespace Go.Proofs.Ytmjfmfelbmbniaa
open Go.RowKit Go.Maps HK ShM
set_option linter.unusedVariables false
set_option linter.unusedSimpArgs false
def absE (es : List Ent) : List (Val × Val) := es.filterMap id
def liveL (L : List (Val × Val)) : Nat := L.countP (fun x => decide (x.2.k ≠ 0))
abbrev Canon (k : Val) : Prop := k.own = k ∧ k.bad = false ∧ k.s.size ≤ maxLen
structure DIn (w : World) (X : Nat → Prop) (d : Nat) (es : List Ent) (ev : Value) (tb : Nat) (T : List Nat) : Prop where
  mem : DMem w d ev tb T es ((es.length : Int) - (absE es).length) (liveL (absE es))
  tab : TabOK T es
  uniq : Uniq es
  canon : ∀ i k v, es.getD i none = some (k, v) → Canon k
  ownD : X d
  ownT : X tb
  ownE : ∀ g, ev.ownBlock = some g → X g
  lt : ∀ b, X b → b < w.heap.size
section
variable {w w' : World} {X : Nat → Prop} {d tb : Nat} {ev : Value} {T : List Nat} {es : List Ent}
theorem DIn.of (h : DIn w X d es ev tb T) (hs : w.heap.size ≤ w'.heap.size) (hb : ∀ b, X b → w'.heap[b]? = w.heap[b]?) : DIn w' X d es ev tb T :=
  { h with mem := h.mem.of (hb _ h.ownD) (hb _ h.ownT) (fun g hg => hb _ (h.ownE g hg)), lt := fun b hB => Nat.lt_of_lt_of_le (h.lt b hB) hs }
theorem DIn.below (h : DIn w X d es ev tb T) (hb : Below w.heap.size w w') : DIn w' X d es ev tb T := h.of hb.size (fun b hB => hb.block b (h.lt b hB))
theorem DIn.find (h : DIn w X d es ev tb T) (k : Val) (hk : k.s.size ≤ maxLen) : Calls Try.prog 111 #[.pointer (some ⟨d, 0, none⟩), k.v] w fun e w' => e = .returned (.tuple #[.int .i64 ((findM T es k).1 : Nat), .int .i64 (findM T es k).2]) ∧ Below w.heap.size w w' :=
  find_calls h.mem h.tab.pow h.tab.big h.tab.top h.tab.le h.tab.zero k hk
theorem keyV_size {x : Val} (hx : x.s.size ≤ maxLen) : (keyV x).s.size ≤ maxLen := by
  unfold keyV Val.own
  repeat' split
  all_goals first | exact hx | exact Nat.zero_le _
/-- The entry's place; none: there is none. -/
def entI (T : List Nat) (es : List Ent) (x : Val) : Int := if x.bad then -1 else (findM T es (keyV x)).2
def entP (ev : Value) (i : Int) : Value := if i < 0 then .pointer none else match ev with
  | .slice (some a) _ _ => .pointer (some ⟨a.block, i.toNat * 7, none⟩)
  | _ => .pointer none
theorem entI_hit (h : DIn w X d es ev tb T) {x v : Val} {i : Nat} (hb : x.bad = false) (hi : es.getD i none = some (keyV x, v)) : entI T es x = i := by
  unfold entI; rw [hb]; exact h.tab.found h.uniq hi
theorem entI_miss (h : DIn w X d es ev tb T) {x : Val} (hm : x.bad = true ∨ ∀ i v, es.getD i none ≠ some (keyV x, v)) : entI T es x = -1 := by
  unfold entI
  cases hb : x.bad with
  | true => rfl
  | false =>
    rcases hm with hm | hm
    · rw [hb] at hm; cases hm
    · obtain ⟨j, h1, _⟩ := h.tab.absent hm
      rw [if_neg (by simp), h1]
/-- Either the key has an entry, or it has none. -/
theorem ent_or (h : DIn w X d es ev tb T) (x : Val) : (x.bad = false ∧ ∃ i v, i < es.length ∧ es[i]? = some (some (keyV x, v)) ∧ es.getD i none = some (keyV x, v) ∧ entI T es x = i) ∨ ((x.bad = true ∨ ∀ i v, es.getD i none ≠ some (keyV x, v)) ∧ entI T es x = -1) := by
  by_cases hm : x.bad = true ∨ ∀ i v, es.getD i none ≠ some (keyV x, v)
  · exact .inr ⟨hm, entI_miss h hm⟩
  · have h1 : x.bad = false := by
      cases e : x.bad with
      | false => rfl
      | true => exact absurd (.inl e) hm
    obtain ⟨i, hi⟩ := Classical.not_forall.1 (fun h => hm (.inr h))
    obtain ⟨v, hv⟩ := Classical.not_forall.1 hi
    have hv := Classical.not_not.1 hv
    have hl : i < es.length := by
      rcases Nat.lt_or_ge i es.length with h' | h'
      · exact h'
      · rw [List.getD_eq_getElem?_getD, List.getElem?_eq_none h'] at hv; cases hv
    refine .inl ⟨h1, i, v, hl, ?_, hv, entI_hit h h1 hv⟩
    rw [List.getD_eq_getElem?_getD, List.getElem?_eq_getElem hl] at hv
    rw [List.getElem?_eq_getElem hl]
    exact congrArg some (by simpa using hv)
set_option maxHeartbeats 4000000 in
set_option maxRecDepth 20000 in
theorem entry_calls (h : DIn w X d es ev tb T) (x : Val) (hx : x.s.size ≤ maxLen) :
    Calls Try.prog 108 #[.pointer (some ⟨d, 0, none⟩), x.v] w fun e w' => e = .returned (entP ev (entI T es x)) ∧ Below w.heap.size w w' := by
  have HK := Lib.hid (fun (W : World) => key_calls x W)
  have HF := Lib.hid (fun (W : World) (h : DIn W X d es ev tb T) => h.find (keyV x) (keyV_size hx))
  have hbx : Blk (w.alloc (.cells #[.int .i64 x.k, .int .i64 x.n, .string x.s] 57)) w.heap.size 57 [.int .i64 x.k, .int .i64 x.n, .string x.s] := Blk.new w [.int .i64 x.k, .int .i64 x.n, .string x.s] 57
  have HB0 : Hid (Below w.heap.size w (w.alloc (.cells #[.int .i64 x.k, .int .i64 x.n, .string x.s] 57))) := Lib.hid (by (repeat (first | exact Below.refl _ _ | (refine Below.alloc ?_ (by simp <;> omega) _) | (refine Below.setCell ?_ (by simp <;> omega) _))))
  have HBX := Lib.hid hbx
  have HO := Lib.hid (ent_or h x)
  have HI := Lib.hid h
  have HE : Hid (keyE x = if x.bad then 15 else 0) := Lib.hid rfl
  have HEI : Hid (x.bad = false → entI T es x = (findM T es (keyV x)).2) := Lib.hid (fun hb => by unfold entI; rw [hb]; rfl)
  clear h hbx hx
  cases hbad : x.bad with
  | true =>
    have hI : entI T es x = -1 := by
      rcases HO.out with h | h
      · rw [h.1] at hbad; cases hbad
      · exact h.2
    have HII := Lib.hid hI
    rw [HE.out, hbad] at HK
    clear hI hbad
    generalize keyV x = k at *
    obtain ⟨x1, x2, x3⟩ := x
    go_enter Try.func108, Try.ntmps108
    go_wp2_with (go_at_call 43; (with_reducible refine (HK.out _).mono ?_); rintro e w1 ⟨rfl, hb⟩; have HB1 := Lib.hid (HB0.out.trans (hb.mono HB0.out.size)); clear hb)
    go_ret
    exact ⟨by rw [HII.out]; rfl, HB1.out.alloc HB1.out.size _⟩
  | false =>
    have HEI := Lib.hid (HEI.out hbad)
    rw [HE.out, hbad, if_neg (by decide)] at HK
    have hkk := Lib.hid hbad
    clear hbad
    rcases HO.out with ⟨_, i, v, hil, hie, hid, hI⟩ | ⟨_, hI⟩
    · have HII := Lib.hid hI
      rw [← HEI.out, hI] at HF
      obtain ⟨g, cap, hev, hc1, hc2, _⟩ := HI.out.mem.cell_ent hie
      have hc2' : cap ≤ 9223372036854775807 := hc2
      subst hev
      have HL := Lib.hid hie
      clear hI hie hid hc2 HO
      generalize keyV x = k at *
      obtain ⟨k1, k2, k3⟩ := k
      obtain ⟨x1, x2, x3⟩ := x
      have hi0 : (0 : Int) ≤ (i : Int) := by omega
      have hi1 : (i : Int) < (es.length : Int) := by omega
      generalize (findM T es ⟨k1, k2, k3⟩).1 = pl at *
      obtain ⟨m, hm⟩ : ∃ m, m = es.length := ⟨_, rfl⟩
      have EM := Lib.hid hm
      rw [← hm] at hi1 hil hc1
      clear hm
      go_enter Try.func108, Try.ntmps108
      go_wp2_with (first
      | (go_at_call 43; (with_reducible refine (HK.out _).mono ?_); rintro e w1 ⟨rfl, hb⟩; have HB1 := Lib.hid (HB0.out.trans (hb.mono HB0.out.size)); clear hb; have HB2 : Hid (Below w.heap.size w (w1.alloc (.cells #[.int .i64 k1, .int .i64 k2, .string k3] 57))) := Lib.hid (HB1.out.alloc HB1.out.size _))
      | (go_at_call 111; (with_reducible refine (HF.out _ (HI.out.below HB2.out)).mono ?_); rintro e w2 ⟨rfl, hb⟩; have HB3 := Lib.hid (HB2.out.trans (hb.mono HB2.out.size)); have c0 := (HI.out.below HB3.out).mem.hd.cell 0 _ rfl; rw [← EM.out] at c0; clear hb))

      go_ret
      exact ⟨by rw [HII.out]; rfl, HB3.out⟩
    · have HII := Lib.hid hI
      rw [← HEI.out, hI] at HF
      clear hI HO
      generalize keyV x = k at *
      obtain ⟨k1, k2, k3⟩ := k
      obtain ⟨x1, x2, x3⟩ := x
      generalize (findM T es ⟨k1, k2, k3⟩).1 = pl at *
      go_enter Try.func108, Try.ntmps108
      go_wp2_with (first
      | (go_at_call 43; (with_reducible refine (HK.out _).mono ?_); rintro e w1 ⟨rfl, hb⟩; have HB1 := Lib.hid (HB0.out.trans (hb.mono HB0.out.size)); clear hb; have HB2 : Hid (Below w.heap.size w (w1.alloc (.cells #[.int .i64 k1, .int .i64 k2, .string k3] 57))) := Lib.hid (HB1.out.alloc HB1.out.size _))
      | (go_at_call 111; (with_reducible refine (HF.out _ (HI.out.below HB2.out)).mono ?_); rintro e w2 ⟨rfl, hb⟩; have HB3 := Lib.hid (HB2.out.trans (hb.mono HB2.out.size)); have c0 := (HI.out.below HB3.out).mem.hd.cell 0 _ rfl; clear hb))

      go_ret
      exact ⟨by rw [HII.out]; rfl, HB3.out⟩
end
end Go.Proofs.Ytmjfmfelbmbniaa

/- Layer 13: what a dictionary answers: Len, Live, Has, Get. -/
namespace Go.Proofs.Ytmjfmfelbmbniaa
open Go.RowKit Go.Maps HK ShM
set_option linter.unusedVariables false
set_option linter.unusedSimpArgs false
abbrev Pairs := List (Val × Val)
def getA (L : Pairs) (k : Val) : Option Val := (L.find? (fun x => decide (x.1 = k))).map (·.2)
def hasK (L : Pairs) (x : Val) : Bool := !x.bad && (getA L (keyV x)).isSome
def getV (L : Pairs) (x : Val) : Val := if x.bad then Val.nil else (getA L (keyV x)).getD Val.nil
theorem absE_nil : absE [] = [] := rfl
theorem absE_none (es : List Ent) : absE (none :: es) = absE es := rfl
theorem absE_some (x : Val × Val) (es : List Ent) : absE (some x :: es) = x :: absE es := rfl
theorem absE_append (es fs : List Ent) : absE (es ++ fs) = absE es ++ absE fs := List.filterMap_append
theorem getA_hit : ∀ {es : List Ent} {i : Nat} {k v : Val}, Uniq es → es.getD i none = some (k, v) → getA (absE es) k = some v
  | [], i, k, v, _, h => by simp at h
  | none :: r, 0, k, v, _, h => by simp at h
  | none :: r, i + 1, k, v, hu, h => getA_hit (es := r) (i := i) (fun a b k v w h1 h2 => by have := hu (a + 1) (b + 1) k v w (by simpa using h1) (by simpa using h2); omega) (by simpa using h)
  | some x :: r, 0, k, v, hu, h => by
    simp at h; subst h
    simp [getA, absE_some]
  | some x :: r, i + 1, k, v, hu, h => by
    have hx : x.1 ≠ k := fun e => by
      obtain ⟨x1, x2⟩ := x
      cases e
      have := hu 0 (i + 1) x1 x2 v (by simp) (by simpa using h)
      omega
    have := getA_hit (es := r) (i := i) (k := k) (v := v) (fun a b k v w h1 h2 => by have := hu (a + 1) (b + 1) k v w (by simpa using h1) (by simpa using h2); omega) (by simpa using h)
    simp only [getA, absE_some, List.find?_cons, hx, decide_false] at this ⊢
    exact this
theorem mem_absE {es : List Ent} {x : Val × Val} : x ∈ absE es ↔ ∃ i, es.getD i none = some x := by
  constructor
  · intro h
    obtain ⟨y, hy, rfl⟩ := List.mem_filterMap.1 h
    subst_vars
    obtain ⟨i, hi⟩ := List.getElem?_of_mem hy
    refine ⟨i, ?_⟩
    rw [List.getD_eq_getElem?_getD, hi]
    rfl
  · rintro ⟨i, hi⟩
    rw [List.getD_eq_getElem?_getD] at hi
    cases e : es[i]? with
    | none => rw [e] at hi; cases hi
    | some y =>
      rw [e] at hi
      exact List.mem_filterMap.2 ⟨y, List.mem_of_getElem? e, hi⟩
theorem getA_miss {es : List Ent} {k : Val} (h : ∀ i v, es.getD i none ≠ some (k, v)) : getA (absE es) k = none := by
  unfold getA
  rw [List.find?_eq_none.2]
  · rfl
  · intro x hx
    obtain ⟨i, hi⟩ := mem_absE.1 hx
    obtain ⟨a, b⟩ := x
    simp only [decide_eq_true_eq]
    rintro rfl
    exact h i b hi
/-- A dictionary of these pairs; N: not more than so many entries, dropped ones too. -/
def DAt (w : World) (X : Nat → Prop) (d : Nat) (L : Pairs) (N : Nat) : Prop := ∃ es ev tb T, DIn w X d es ev tb T ∧ absE es = L ∧ es.length ≤ N
section
variable {w w' : World} {X : Nat → Prop} {d N : Nat} {L : Pairs}
theorem DAt.below (h : DAt w X d L N) (hb : Below w.heap.size w w') : DAt w' X d L N := by
  obtain ⟨es, ev, tb, T, h, h2⟩ := h; exact ⟨es, ev, tb, T, h.below hb, h2⟩
theorem DAt.of (h : DAt w X d L N) (hs : w.heap.size ≤ w'.heap.size) (hb : ∀ b, X b → w'.heap[b]? = w.heap[b]?) : DAt w' X d L N := by
  obtain ⟨es, ev, tb, T, h, h2⟩ := h; exact ⟨es, ev, tb, T, h.of hs hb, h2⟩
theorem DAt.lt (h : DAt w X d L N) : ∀ b, X b → b < w.heap.size := by
  obtain ⟨es, ev, tb, T, h, h2⟩ := h; exact h.lt
theorem DAt.mono (h : DAt w X d L N) {M : Nat} (hM : N ≤ M) : DAt w X d L M := by
  obtain ⟨es, ev, tb, T, h, h2, h3⟩ := h; exact ⟨es, ev, tb, T, h, h2, Nat.le_trans h3 hM⟩
theorem dlive_calls (h : DAt w X d L N) : Calls Try.prog 48 #[.pointer (some ⟨d, 0, none⟩)] w fun e w' => e = .returned (.int .i64 (liveL L : Nat)) ∧ w = w' := by
  obtain ⟨es, ev, tb, T, h, rfl, h2⟩ := h
  have c3 := h.mem.hd.cell 3 _ rfl
  clear h h2
  go_enter Try.func48, Try.ntmps48
  go_wp2
  go_ret
  exact ⟨rfl, rfl⟩
theorem absE_len (es : List Ent) : (absE es).length ≤ es.length := List.length_filterMap_le _ _
theorem dlen_calls (h : DAt w X d L N) (hN : N ≤ 1048576) : Calls Try.prog 46 #[.pointer (some ⟨d, 0, none⟩)] w fun e w' => e = .returned (.int .i64 (L.length : Nat)) ∧ Below w.heap.size w w' := by
  obtain ⟨es, ev, tb, T, h, rfl, h2⟩ := h
  have c0 := h.mem.hd.cell 0 _ rfl
  have c2 := h.mem.hd.cell 2 _ rfl
  obtain ⟨ea, ec, hev⟩ := ownsRow_form h.mem.rows
  subst hev
  have hl := absE_len es
  clear h
  have hg : ((es.length : Int) - ((es.length : Int) - ((absE es).length : Int))) = ((absE es).length : Int) := by omega
  have HG := Lib.hid hg
  clear hg
  generalize (absE es).length = q at *
  generalize es.length = m at *
  go_enter Try.func46, Try.ntmps46
  go_wp2
  go_quiet (fail)
  go_wp2
  go_ret
  refine ⟨congrArg (fun z => Ending.returned (Value.int .i64 z)) HG.out, ?_⟩
  exact Below.drewN (Below.refl _ _) _
theorem ent_get (h : DAt w X d L N) (x : Val) : ∃ es ev tb T, DIn w X d es ev tb T ∧ absE es = L ∧ es.length ≤ N ∧ ((hasK L x = true ∧ x.bad = false ∧ ∃ i v, i < es.length ∧ es[i]? = some (some (keyV x, v)) ∧ entI T es x = i ∧ getV L x = v ∧ getA L (keyV x) = some v) ∨ (hasK L x = false ∧ getV L x = Val.nil ∧ entI T es x = -1 ∧ (x.bad = true ∨ getA L (keyV x) = none))) := by
  obtain ⟨es, ev, tb, T, h, rfl, h2⟩ := h
  refine ⟨es, ev, tb, T, h, rfl, h2, ?_⟩
  rcases ent_or h x with ⟨h3, i, v, h4, h5, h6, h7⟩ | ⟨h3, h4⟩
  · have := getA_hit h.uniq h6
    exact .inl ⟨by unfold hasK; rw [h3, this]; rfl, h3, i, v, h4, h5, h7, by unfold getV; rw [h3, this]; rfl, this⟩
  · refine .inr ?_
    rcases h3 with h3 | h3
    · exact ⟨by unfold hasK; rw [h3]; rfl, by unfold getV; rw [h3]; rfl, h4, .inl h3⟩
    · have := getA_miss h3
      refine ⟨by unfold hasK; rw [this]; simp, by unfold getV; rw [this]; simp, h4, .inr this⟩
set_option maxHeartbeats 2000000 in
theorem dhas_calls (h : DAt w X d L N) (x : Val) (hx : x.s.size ≤ maxLen) : Calls Try.prog 56 #[.pointer (some ⟨d, 0, none⟩), x.v] w fun e w' => e = .returned (.bool (hasK L x)) ∧ Below w.heap.size w w' := by
  obtain ⟨es, ev, tb, T, h, hL, hN, ho⟩ := ent_get h x
  have HE := Lib.hid (fun (W : World) (h : DIn W X d es ev tb T) => entry_calls h x hx)
  have HI := Lib.hid h
  have HB0 : Hid (Below w.heap.size w (w.alloc (.cells #[.int .i64 x.k, .int .i64 x.n, .string x.s] 57))) := Lib.hid (by (repeat (first | exact Below.refl _ _ | (refine Below.alloc ?_ (by simp <;> omega) _) | (refine Below.setCell ?_ (by simp <;> omega) _))))
  rcases ho with ⟨h1, h2, i, v, h3, h4, h5, h6, _⟩ | ⟨h1, h2, h3, _⟩
  · rw [h5] at HE
    obtain ⟨g, cap, hev, _⟩ := h.mem.cell_ent h4
    subst hev
    rw [h1]
    have hEP : entP (.slice (some ⟨g, 0, none⟩) es.length cap) (i : Int) = .pointer (some ⟨g, i * 7, none⟩) := by unfold entP; rw [if_neg (by omega), Int.toNat_natCast]
    rw [hEP] at HE
    clear h h1 h2 h3 h4 h5 h6 hEP
    obtain ⟨x1, x2, x3⟩ := x
    go_enter Try.func56, Try.ntmps56
    go_wp2_with (go_at_call 108; (with_reducible refine (HE.out _ (HI.out.below HB0.out)).mono ?_); rintro e w1 ⟨rfl, hb⟩; have HB1 := Lib.hid (HB0.out.trans (hb.mono HB0.out.size)); clear hb)
    go_ret
    exact ⟨rfl, HB1.out⟩
  · rw [h3] at HE
    rw [h1]
    rw [show entP ev (-1) = .pointer none from rfl] at HE
    clear h h1 h2 h3
    obtain ⟨x1, x2, x3⟩ := x
    go_enter Try.func56, Try.ntmps56
    go_wp2_with (go_at_call 108; (with_reducible refine (HE.out _ (HI.out.below HB0.out)).mono ?_); rintro e w1 ⟨rfl, hb⟩; have HB1 := Lib.hid (HB0.out.trans (hb.mono HB0.out.size)); clear hb)
    go_ret
    exact ⟨rfl, HB1.out⟩
set_option maxHeartbeats 2000000 in
theorem dget_calls (h : DAt w X d L N) (x : Val) (hx : x.s.size ≤ maxLen) : Calls Try.prog 47 #[.pointer (some ⟨d, 0, none⟩), x.v] w fun e w' => e = .returned (getV L x).v ∧ Below w.heap.size w w' := by
  obtain ⟨es, ev, tb, T, h, hL, hN, ho⟩ := ent_get h x
  have HE := Lib.hid (fun (W : World) (h : DIn W X d es ev tb T) => entry_calls h x hx)
  have HI := Lib.hid h
  have HB0 : Hid (Below w.heap.size w ((w.alloc (.cells #[.int .i64 x.k, .int .i64 x.n, .string x.s] 57)).alloc (.cells #[.int .i64 0, .int .i64 0, .string ⟨#[]⟩] 57))) := Lib.hid (by (repeat (first | exact Below.refl _ _ | (refine Below.alloc ?_ (by simp <;> omega) _) | (refine Below.setCell ?_ (by simp <;> omega) _))))
  have hbk : Blk ((w.alloc (.cells #[.int .i64 x.k, .int .i64 x.n, .string x.s] 57)).alloc (.cells #[.int .i64 0, .int .i64 0, .string ⟨#[]⟩] 57)) (w.heap.size + 1) 57 [.int .i64 0, .int .i64 0, .string ⟨#[]⟩] := by
    simpa using Blk.new (w.alloc (.cells #[.int .i64 x.k, .int .i64 x.n, .string x.s] 57)) [.int .i64 0, .int .i64 0, .string ⟨#[]⟩] 57
  have HBK := Lib.hid hbk
  clear hbk
  rcases ho with ⟨h1, h2, i, v, h3, h4, h5, h6, _⟩ | ⟨h1, h2, h3, _⟩
  · rw [h5] at HE
    obtain ⟨g, cap, hev, _⟩ := h.mem.cell_ent h4
    subst hev
    rw [h6]
    have hEP : entP (.slice (some ⟨g, 0, none⟩) es.length cap) (i : Int) = .pointer (some ⟨g, i * 7, none⟩) := by unfold entP; rw [if_neg (by omega), Int.toNat_natCast]
    rw [hEP] at HE
    have H4 := Lib.hid h4
    clear h h1 h2 h3 h4 h5 h6 hEP
    obtain ⟨x1, x2, x3⟩ := x
    go_enter Try.func47, Try.ntmps47
    go_wp2_with (go_at_call 108; (with_reducible refine (HE.out _ (HI.out.below HB0.out)).mono ?_); rintro e w1 ⟨rfl, hb⟩; have hk := var_kept HBK.out hb; have HKK := Lib.hid hk; have x0 := hk.cell 0 _ rfl; have x1 := hk.cell 1 _ rfl; have x2 := hk.cell 2 _ rfl; have f0 := hk.frozen 0; have f1 := hk.frozen 1; have f2 := hk.frozen 2; have HBL := Lib.hid (HB0.out.trans (hb.mono HB0.out.size)); obtain ⟨g', cap', hge, _, _, hcell⟩ := (HI.out.below HBL.out).mem.cell_ent H4.out; cases hge; have u3 := hcell 3 _ (by decide) rfl; have u4 := hcell 4 _ (by decide) rfl; have u5 := hcell 5 _ (by decide) rfl; clear hk hb hcell)
    refine bodyPost_ret (results_val (x := v) rfl _ rfl (((HKK.out.setSame 0 _).setSame 1 _).setSame 2 _)) rfl ⟨rfl, ?_⟩
    exact ((HBL.out.setCell (by simp) _).setCell (by simp) _).setCell (by simp) _
  · rw [h3] at HE
    rw [h2]
    rw [show entP ev (-1) = .pointer none from rfl] at HE
    clear h h1 h2 h3
    obtain ⟨x1, x2, x3⟩ := x
    go_enter Try.func47, Try.ntmps47
    go_wp2_with (go_at_call 108; (with_reducible refine (HE.out _ (HI.out.below HB0.out)).mono ?_); rintro e w1 ⟨rfl, hb⟩; have hk := var_kept HBK.out hb; have HKK := Lib.hid hk; have x0 := hk.cell 0 _ rfl; have x1 := hk.cell 1 _ rfl; have x2 := hk.cell 2 _ rfl; have f0 := hk.frozen 0; have f1 := hk.frozen 1; have f2 := hk.frozen 2; have HBL := Lib.hid (HB0.out.trans (hb.mono HB0.out.size)); clear hk hb)
    refine bodyPost_ret (results_val (x := Val.nil) rfl _ rfl (((HKK.out.setSame 0 _).setSame 1 _).setSame 2 _)) rfl ⟨rfl, ?_⟩
    exact ((HBL.out.setCell (by simp) _).setCell (by simp) _).setCell (by simp) _
end
end Go.Proofs.Ytmjfmfelbmbniaa

/- Layer 13: pairs, and what an entry written anew makes of them. Plain lemmas. -/
namespace Go.Proofs.Ytmjfmfelbmbniaa
open Go.RowKit Go.Maps HK ShM
set_option linter.unusedVariables false
set_option linter.unusedSimpArgs false
def dropA (L : Pairs) (k : Val) : Pairs := L.filter (fun x => decide (x.1 ≠ k))
def setA (L : Pairs) (k v : Val) : Pairs := L.map (fun x => if x.1 = k then (k, v) else x)
theorem uniq_tail {x : Ent} {r : List Ent} (h : Uniq (x :: r)) : Uniq r := fun a b k v w h1 h2 => by
  have := h (a + 1) (b + 1) k v w (by simpa using h1) (by simpa using h2); omega
theorem uniq_head {k v : Val} {r : List Ent} (h : Uniq (some (k, v) :: r)) : ∀ i w, r.getD i none ≠ some (k, w) := fun i w h2 => by
  have := h 0 (i + 1) k v w (by simp) (by simpa using h2); omega
theorem getD_set_ent {es : List Ent} {i j : Nat} {x : Ent} (hi : i < es.length) : (es.set i x).getD j none = if j = i then x else es.getD j none := by
  simp only [List.getD_eq_getElem?_getD]
  rw [List.getElem?_set]
  by_cases e : i = j
  · subst e; simp [hi]
  · simp [e, Ne.symm e]
theorem uniq_set {es : List Ent} {i : Nat} {x : Ent} (h : Uniq es) (hi : i < es.length) (hx : ∀ k v, x = some (k, v) → ∃ w, es.getD i none = some (k, w)) : Uniq (es.set i x) := fun a b k v w h1 h2 => by
  rw [getD_set_ent hi] at h1 h2
  by_cases ea : a = i
  · by_cases eb : b = i
    · omega
    · rw [if_pos ea] at h1; rw [if_neg eb] at h2
      obtain ⟨u, hu⟩ := hx k v h1
      have := h i b k u w hu h2; omega
  · by_cases eb : b = i
    · rw [if_neg ea] at h1; rw [if_pos eb] at h2
      obtain ⟨u, hu⟩ := hx k w h2
      have := h a i k v u h1 hu; omega
    · rw [if_neg ea] at h1; rw [if_neg eb] at h2
      exact h a b k v w h1 h2
theorem uniq_snoc {es : List Ent} {k v : Val} (h : Uniq es) (ha : ∀ i w, es.getD i none ≠ some (k, w)) : Uniq (es ++ [some (k, v)]) := fun a b k' v' w' h1 h2 => by
  rw [getD_snoc] at h1 h2
  by_cases ea : a = es.length
  · by_cases eb : b = es.length
    · omega
    · rw [if_pos ea] at h1; rw [if_neg eb] at h2
      cases h1
      exact absurd h2 (ha b w')
  · by_cases eb : b = es.length
    · rw [if_neg ea] at h1; rw [if_pos eb] at h2
      cases h2
      exact absurd h1 (ha a v')
    · rw [if_neg ea] at h1; rw [if_neg eb] at h2
      exact h a b k' v' w' h1 h2
theorem dropA_none {es : List Ent} {k : Val} (h : ∀ i w, es.getD i none ≠ some (k, w)) : dropA (absE es) k = absE es := by
  unfold dropA
  rw [List.filter_eq_self.2]
  intro x hx
  obtain ⟨i, hi⟩ := mem_absE.1 hx
  obtain ⟨a, b⟩ := x
  simp only [decide_eq_true_eq]
  rintro rfl
  exact h i b hi
theorem setA_none {es : List Ent} {k v : Val} (h : ∀ i w, es.getD i none ≠ some (k, w)) : setA (absE es) k v = absE es := by
  unfold setA
  rw [List.map_congr_left (g := id)]
  · simp
  · intro x hx
    obtain ⟨i, hi⟩ := mem_absE.1 hx
    obtain ⟨a, b⟩ := x
    rw [if_neg]
    · rfl
    · rintro rfl
      exact h i b hi
theorem absE_drop : ∀ {es : List Ent} {i : Nat} {k v : Val}, Uniq es → es.getD i none = some (k, v) → absE (es.set i none) = dropA (absE es) k
  | [], i, k, v, _, h => by simp at h
  | none :: r, 0, k, v, _, h => by simp at h
  | none :: r, i + 1, k, v, hu, h => by
    rw [List.set_cons_succ, absE_none, absE_none]
    exact absE_drop (uniq_tail hu) (by simpa using h)
  | some x :: r, 0, k, v, hu, h => by
    simp at h; subst h
    rw [List.set_cons_zero, absE_none, absE_some]
    have := dropA_none (uniq_head hu)
    unfold dropA at this ⊢
    rw [List.filter_cons_of_neg (by simp), this]
  | some x :: r, i + 1, k, v, hu, h => by
    obtain ⟨a, b⟩ := x
    have hx : a ≠ k := fun e => by subst e; exact uniq_head hu i v (by simpa using h)
    rw [List.set_cons_succ, absE_some, absE_some, absE_drop (uniq_tail hu) (by simpa using h)]
    unfold dropA
    rw [List.filter_cons_of_pos (by simpa using hx)]
theorem absE_set : ∀ {es : List Ent} {i : Nat} {k v v' : Val}, Uniq es → es.getD i none = some (k, v) → absE (es.set i (some (k, v'))) = setA (absE es) k v'
  | [], i, k, v, v', _, h => by simp at h
  | none :: r, 0, k, v, v', _, h => by simp at h
  | none :: r, i + 1, k, v, v', hu, h => by
    rw [List.set_cons_succ, absE_none, absE_none]
    exact absE_set (uniq_tail hu) (by simpa using h)
  | some x :: r, 0, k, v, v', hu, h => by
    simp at h; subst h
    rw [List.set_cons_zero, absE_some, absE_some]
    have := setA_none (v := v') (uniq_head hu)
    unfold setA at this ⊢
    rw [List.map_cons, this, if_pos rfl]
  | some x :: r, i + 1, k, v, v', hu, h => by
    obtain ⟨a, b⟩ := x
    have hx : a ≠ k := fun e => by subst e; exact uniq_head hu i v (by simpa using h)
    rw [List.set_cons_succ, absE_some, absE_some, absE_set (uniq_tail hu) (by simpa using h)]
    unfold setA
    rw [List.map_cons, if_neg hx]
theorem len_drop : ∀ {es : List Ent} {i : Nat} {x : Val × Val}, es.getD i none = some x → (absE (es.set i none)).length + 1 = (absE es).length
  | [], i, x, h => by simp at h
  | none :: r, 0, x, h => by simp at h
  | none :: r, i + 1, x, h => by rw [List.set_cons_succ, absE_none, absE_none]; exact len_drop (by simpa using h)
  | some y :: r, 0, x, h => by rw [List.set_cons_zero, absE_none, absE_some]; rfl
  | some y :: r, i + 1, x, h => by
    rw [List.set_cons_succ, absE_some, absE_some, List.length_cons, List.length_cons, len_drop (es := r) (i := i) (x := x) (by simpa using h)]
theorem len_set : ∀ {es : List Ent} {i : Nat} {x y : Val × Val}, es.getD i none = some x → (absE (es.set i (some y))).length = (absE es).length
  | [], i, x, y, h => by simp at h
  | none :: r, 0, x, y, h => by simp at h
  | none :: r, i + 1, x, y, h => by rw [List.set_cons_succ, absE_none, absE_none]; exact len_set (by simpa using h)
  | some z :: r, 0, x, y, h => by rw [List.set_cons_zero, absE_some, absE_some]; rfl
  | some z :: r, i + 1, x, y, h => by
    rw [List.set_cons_succ, absE_some, absE_some, List.length_cons, List.length_cons, len_set (es := r) (i := i) (x := x) (y := y) (by simpa using h)]
theorem liveL_cons (x : Val × Val) (L : Pairs) : (liveL (x :: L) : Int) = x.2.lives + liveL L := by
  unfold liveL Val.lives
  rw [List.countP_cons]
  by_cases h : x.2.k = 0 <;> simp [h]
  omega
theorem lives_01 (x : Val) : 0 ≤ x.lives ∧ x.lives ≤ 1 := by unfold Val.lives; split <;> omega
theorem live_drop : ∀ {es : List Ent} {i : Nat} {x : Val × Val}, es.getD i none = some x → (liveL (absE (es.set i none)) : Int) = liveL (absE es) - x.2.lives
  | [], i, x, h => by simp at h
  | none :: r, 0, x, h => by simp at h
  | none :: r, i + 1, x, h => by rw [List.set_cons_succ, absE_none, absE_none]; exact live_drop (by simpa using h)
  | some y :: r, 0, x, h => by
    simp at h; subst h
    rw [List.set_cons_zero, absE_none, absE_some, liveL_cons]; omega
  | some y :: r, i + 1, x, h => by
    rw [List.set_cons_succ, absE_some, absE_some, liveL_cons, liveL_cons, live_drop (es := r) (i := i) (x := x) (by simpa using h)]; omega
theorem live_set : ∀ {es : List Ent} {i : Nat} {x y : Val × Val}, es.getD i none = some x → (liveL (absE (es.set i (some y))) : Int) = liveL (absE es) + (y.2.lives - x.2.lives)
  | [], i, x, y, h => by simp at h
  | none :: r, 0, x, y, h => by simp at h
  | none :: r, i + 1, x, y, h => by rw [List.set_cons_succ, absE_none, absE_none]; exact live_set (by simpa using h)
  | some z :: r, 0, x, y, h => by
    simp at h; subst h
    rw [List.set_cons_zero, absE_some, absE_some, liveL_cons, liveL_cons]; omega
  | some z :: r, i + 1, x, y, h => by
    rw [List.set_cons_succ, absE_some, absE_some, liveL_cons, liveL_cons, live_set (es := r) (i := i) (x := x) (y := y) (by simpa using h)]; omega
theorem flat7_set : ∀ {css : List (List Value)} {i c : Nat} {x : List Value} (u : Value), (∀ y ∈ css, y.length = 7) → css[i]? = some x → c < 7 → css.flatten.set (i * 7 + c) u = (css.set i (x.set c u)).flatten
  | [], i, c, x, u, _, h, _ => by simp at h
  | y :: r, 0, c, x, u, h7, h, hc => by
    simp at h; subst h
    have hy := h7 y (by simp)
    rw [List.set_cons_zero, List.flatten_cons, List.flatten_cons, Nat.zero_mul, Nat.zero_add, List.set_append_left _ _ (by omega)]
  | y :: r, i + 1, c, x, u, h7, h, hc => by
    have hy := h7 y (by simp)
    rw [List.set_cons_succ, List.flatten_cons, List.flatten_cons, List.set_append_right _ _ (by omega), hy, show (i + 1) * 7 + c - 7 = i * 7 + c by omega, flat7_set u (fun z hz => h7 z (by simp [hz])) (by simpa using h) hc]
theorem flatE_flat (es : List Ent) : flatE es = (es.map Ent.cells).flatten := List.flatMap_def
theorem map7 (es : List Ent) : ∀ y ∈ es.map Ent.cells, y.length = 7 := fun y hy => by
  obtain ⟨x, _, rfl⟩ := List.mem_map.1 hy
  exact Ent.cells_len x
theorem set7 {css : List (List Value)} {i c : Nat} {x : List Value} (u : Value) (h7 : ∀ y ∈ css, y.length = 7) (hx : x.length = 7) (hi : i < css.length) (hc : c < 7) : (css.set i x).flatten.set (i * 7 + c) u = (css.set i (x.set c u)).flatten := by
  rw [flat7_set (x := x) u (fun y hy => (List.mem_or_eq_of_mem_set hy).elim (h7 y) (fun e => e ▸ hx)) (by rw [List.getElem?_set_self hi]) hc, List.set_set]
theorem flatE_drop {es : List Ent} {i : Nat} (hi : i < es.length) : (((((((flatE es).set (i * 7) (.int .i64 0)).set (i * 7 + 1) (.int .i64 0)).set (i * 7 + 2) (.string Val.e)).set (i * 7 + 3) (.int .i64 0)).set (i * 7 + 4) (.int .i64 0)).set (i * 7 + 5) (.string Val.e)).set (i * 7 + 6) (.bool false) = flatE (es.set i none) := by
  have hl : i < (es.map Ent.cells).length := by simpa using hi
  obtain ⟨a0, a1, a2, a3, a4, a5, a6, hx⟩ : ∃ a0 a1 a2 a3 a4 a5 a6, es[i].cells = [a0, a1, a2, a3, a4, a5, a6] := by
    rcases es[i] with _ | ⟨k, v⟩ <;> exact ⟨_, _, _, _, _, _, _, rfl⟩
  have hg : (es.map Ent.cells)[i]? = some [a0, a1, a2, a3, a4, a5, a6] := by rw [List.getElem?_map, List.getElem?_eq_getElem hi, Option.map_some, hx]
  have h0 := flat7_set (c := 0) (.int .i64 0) (map7 es) hg (by decide)
  rw [Nat.add_zero] at h0
  rw [flatE_flat, flatE_flat, h0]
  rw [set7 _ (map7 es) rfl hl (by decide), set7 _ (map7 es) rfl hl (by decide), set7 _ (map7 es) rfl hl (by decide), set7 _ (map7 es) rfl hl (by decide), set7 _ (map7 es) rfl hl (by decide), set7 _ (map7 es) rfl hl (by decide), List.map_set]
  rfl
theorem flatE_set {es : List Ent} {i : Nat} {k v v' : Val} (hi : es[i]? = some (some (k, v))) : (((flatE es).set (i * 7 + 3) (.int .i64 v'.k)).set (i * 7 + 4) (.int .i64 v'.n)).set (i * 7 + 5) (.string v'.s) = flatE (es.set i (some (k, v'))) := by
  have hlt := (List.getElem?_eq_some_iff.1 hi).1
  have hl : i < (es.map Ent.cells).length := by simpa using hlt
  have hg : (es.map Ent.cells)[i]? = some (Ent.cells (some (k, v))) := by rw [List.getElem?_map, hi, Option.map_some]
  have h0 := flat7_set (c := 3) (.int .i64 v'.k) (map7 es) hg (by decide)
  rw [flatE_flat, flatE_flat, h0]
  rw [set7 _ (map7 es) rfl hl (by decide), set7 _ (map7 es) rfl hl (by decide), List.map_set]
  rfl
theorem flatE_append (es fs : List Ent) : flatE (es ++ fs) = flatE es ++ flatE fs := List.flatMap_append
theorem row_set {w : World} {base : Nat} {e : TypeId} {size : Nat} {g n cap j : Nat} {xs : List Value} (h : w.ownsRow base e size (.slice (some ⟨g, 0, none⟩) n cap) n xs) (hj : j < xs.length) (u : Value) :
    (w.setCell ⟨g, j, none⟩ u).ownsRow base e size (.slice (some ⟨g, 0, none⟩) n cap) n (xs.set j u) := by
  obtain ⟨h1, h2⟩ := h
  rcases h2 with ⟨h2, _⟩ | ⟨g', cap', cur, h2, h3, h4, h5, h6, h7, h8⟩
  · cases h2
  · cases h2
    refine ⟨by simpa using h1, .inr ⟨g, cap, cur.setIfInBounds j u, rfl, h3, ?_, h5, h6, by simpa using h7, ?_⟩⟩
    · unfold World.setCell
      simp [Array.getElem?_modify, h4]
    · rw [Array.toList_setIfInBounds, List.take_set, h8]
theorem row_frozen {w : World} {base : Nat} {e : TypeId} {size : Nat} {g n cap : Nat} {xs : List Value} (h : w.ownsRow base e size (.slice (some ⟨g, 0, none⟩) n cap) n xs) (j : Nat) : w.frozen? ⟨g, j, none⟩ = false := by
  rcases h.2 with ⟨h2, _⟩ | ⟨g', cap', cur, h2, h3, h4, _⟩
  · cases h2
  · cases h2
    simp [World.frozen?, h4]
end Go.Proofs.Ytmjfmfelbmbniaa

/- Layer 13: a key is dropped. -/
namespace Go.Proofs.Ytmjfmfelbmbniaa
open Go.RowKit Go.Maps HK ShM
set_option linter.unusedVariables false
set_option linter.unusedSimpArgs false
section
variable {w w' : World} {X : Nat → Prop} {d N : Nat} {L : Pairs}
theorem getD_of_get {es : List Ent} {i : Nat} {x : Ent} (h : es[i]? = some x) : es.getD i none = x := by rw [List.getD_eq_getElem?_getD, h]; rfl
theorem DIn.dropped {es : List Ent} {g cap tb i : Nat} {T : List Nat} {k v : Val} (h : DIn w X d es (.slice (some ⟨g, 0, none⟩) es.length cap) tb T) (hi : es[i]? = some (some (k, v))) (dr' lv' : Int) (e1 : dr' = (es.length : Int) - (absE es).length + 1) (e2 : lv' = (liveL (absE es) : Int) - v.lives) :
    DIn (((((((((w.setCell ⟨d, 3, none⟩ (.int .i64 lv')).setCell ⟨d, 2, none⟩ (.int .i64 dr')).setCell ⟨g, i * 7, none⟩ (.int .i64 0)).setCell ⟨g, i * 7 + 1, none⟩ (.int .i64 0)).setCell ⟨g, i * 7 + 2, none⟩ (.string ⟨#[]⟩)).setCell ⟨g, i * 7 + 3, none⟩ (.int .i64 0)).setCell ⟨g, i * 7 + 4, none⟩ (.int .i64 0)).setCell ⟨g, i * 7 + 5, none⟩ (.string ⟨#[]⟩)).setCell ⟨g, i * 7 + 6, none⟩ (.bool false)) X d (es.set i none) (.slice (some ⟨g, 0, none⟩) es.length cap) tb T := by
  have hD := getD_of_get hi
  have hlt := (List.getElem?_eq_some_iff.1 hi).1
  have hdg : d ≠ g := blk_ne_row h.mem.hd h.mem.rows rfl (by decide)
  have hdt : d ≠ tb := h.mem.hd.ne h.mem.tab (by decide)
  have hgt : tb ≠ g := blk_ne_row h.mem.tab h.mem.rows rfl (by decide)
  have hlen := flatE_len es
  have q1 : dr' = ((es.set i none).length : Int) - (absE (es.set i none)).length := by rw [e1, List.length_set]; have := len_drop hD; omega
  have q2 : lv' = (liveL (absE (es.set i none)) : Int) := by rw [e2, live_drop hD]
  refine ⟨⟨?_, ?_, ?_⟩, h.tab.over (fun k v e => by cases e), uniq_set h.uniq hlt (fun k v e => by cases e), ?_, h.ownD, h.ownT, h.ownE, fun b hb => by simpa using h.lt b hb⟩
  · rw [← q1, ← q2]
    exact ((((((((h.mem.hd.setSame 3 _).setSame 2 _).setOther hdg _).setOther hdg _).setOther hdg _).setOther hdg _).setOther hdg _).setOther hdg _).setOther hdg _
  · rw [← flatE_drop hlt, List.length_set]
    have r := ownsRow_of (w' := (w.setCell ⟨d, 3, none⟩ (.int .i64 lv')).setCell ⟨d, 2, none⟩ (.int .i64 dr')) h.mem.rows (fun g' hg => by cases hg; exact (Below.heap_setCell _ _ _ _ (Ne.symm hdg)).trans (Below.heap_setCell _ _ _ _ (Ne.symm hdg)))
    exact row_set (row_set (row_set (row_set (row_set (row_set (row_set r (by omega) _) (by simp; omega) _) (by simp; omega) _) (by simp; omega) _) (by simp; omega) _) (by simp; omega) _) (by simp; omega) _
  · exact ((((((((h.mem.tab.setOther (Ne.symm hdt) _).setOther (Ne.symm hdt) _).setOther hgt _).setOther hgt _).setOther hgt _).setOther hgt _).setOther hgt _).setOther hgt _).setOther hgt _
  · intro j k' v' hj
    rw [getD_set_ent hlt] at hj
    by_cases e : j = i
    · rw [if_pos e] at hj; cases hj
    · rw [if_neg e] at hj; exact h.canon j k' v' hj
set_option maxHeartbeats 4000000 in
set_option maxRecDepth 20000 in
theorem ddrop_calls (h : DAt w X d L N) (x : Val) (hx : x.s.size ≤ maxLen) : Calls Try.prog 45 #[.pointer (some ⟨d, 0, none⟩), x.v] w fun e w' => e = .returned (.bool (hasK L x)) ∧ DAt w' X d (if hasK L x then dropA L (keyV x) else L) N ∧ Chg X w w' := by
  have HD := Lib.hid h
  obtain ⟨es, ev, tb, T, h, hL, hN, ho⟩ := ent_get h x
  have HE := Lib.hid (fun (W : World) (h : DIn W X d es ev tb T) => entry_calls h x hx)
  have HI := Lib.hid h
  have HB0 : Hid (Below w.heap.size w (w.alloc (.cells #[.int .i64 x.k, .int .i64 x.n, .string x.s] 57))) := Lib.hid (by (repeat (first | exact Below.refl _ _ | (refine Below.alloc ?_ (by simp <;> omega) _))))
  rcases ho with ⟨h1, h2, i, v, h3, h4, h5, h6, _⟩ | ⟨h1, h2, h3, _⟩
  · rw [h5] at HE
    obtain ⟨g, cap, hev, _⟩ := h.mem.cell_ent h4
    subst hev
    rw [h1, if_pos rfl]
    have hEP : entP (.slice (some ⟨g, 0, none⟩) es.length cap) (i : Int) = .pointer (some ⟨g, i * 7, none⟩) := by unfold entP; rw [if_neg (by omega), Int.toNat_natCast]
    rw [hEP] at HE
    have H4 := Lib.hid h4
    have H3 := Lib.hid h3
    have HL := Lib.hid hL
    have HN := Lib.hid hN
    generalize hkv : keyV x = kk at *
    obtain ⟨lv, hlv⟩ : ∃ lv : Int, (liveL (absE es) : Int) = lv := ⟨_, rfl⟩
    have hlv0 : 0 ≤ lv ∧ lv ≤ 1048576 := ⟨by omega, by have h1 : liveL (absE es) ≤ (absE es).length := List.countP_le_length; have h2 := absE_len es; have h3 := h.tab.fill; have h4 := h.tab.top; omega⟩
    have HLV := Lib.hid hlv
    have hdr0 : (0 : Int) ≤ (es.length : Int) - (absE es).length ∧ (es.length : Int) - (absE es).length ≤ 1048576 := ⟨by have h2 := absE_len es; omega, by have h3 := h.tab.fill; have h4 := h.tab.top; omega⟩
    clear hlv
    clear h h1 h2 h3 h4 h5 h6 hEP hL hN hkv
    obtain ⟨x1, x2, x3⟩ := x
    go_enter Try.func45, Try.ntmps45
    go_upto_region 4 with (go_at_call 108; (with_reducible refine (HE.out _ (HI.out.below HB0.out)).mono ?_); rintro e w1 ⟨rfl, hb⟩; have HB1 := Lib.hid (HB0.out.trans (hb.mono HB0.out.size)); clear hb)
    have HI1 := Lib.hid (HI.out.below HB1.out)
    have q3 : ∀ W, Below w1.heap.size w1 W → W.cell? ⟨d, 3, none⟩ = some (.int .i64 (liveL (absE es) : Nat)) := fun W hW => (HI1.out.below hW).mem.hd.cell 3 _ rfl
    have qe : ∀ W, Below w1.heap.size w1 W → W.cell? ⟨g, i * 7 + 3, none⟩ = some (.int .i64 v.k) ∧ W.cell? ⟨g, i * 7 + 4, none⟩ = some (.int .i64 v.n) ∧ W.cell? ⟨g, i * 7 + 5, none⟩ = some (.string v.s) := fun W hW => by
      obtain ⟨g', cap', he, _, _, hc⟩ := (HI1.out.below hW).mem.cell_ent H4.out
      cases he
      exact ⟨hc 3 _ (by decide) rfl, hc 4 _ (by decide) rfl, hc 5 _ (by decide) rfl⟩
    have u3 := fun W hW => (qe W hW).1
    have u4 := fun W hW => (qe W hW).2.1
    have u5 := fun W hW => (qe W hW).2.2
    clear qe
    have hB0 : Below w1.heap.size w1 ({ w1 with drawn := w1.drawn + 1 } : World) := ⟨rfl, rfl, rfl, Nat.le_refl _, fun _ _ => rfl⟩
    have HV := Lib.hid (fun (W : World) => lives_calls v W)
    obtain ⟨v1, v2, v3⟩ := v
    refine RG.region_F (Below w1.heap.size w1) 12 (by kernel_rfl) ?_
    have hS0 := hB0
    generalize ({ w1 with drawn := w1.drawn + 1 } : World) = w2 at hS0 hB0 ⊢
    refine RG.takeF 0 (oi := ⟨some 11, _, _, _, _, _⟩) (v := ?_) rfl (by kernel_rfl) (by kernel_rfl) (by kernel_rfl) (by kernel_rfl) (fun _ _ _ h => h) (Or.inl ⟨by rfl, ?hy0⟩) hS0 ?rest0
    case hy0 => (intro W hW; (try dsimp only at hW); go_simp; try with_reducible rfl)
    simp only [Act.put, List.setIfInBounds_toArray, List.set_cons_zero, List.set_cons_succ]
    refine RG.takeF 1 (oi := ⟨some 12, _, _, _, _, _⟩) (v := ?_) rfl (by kernel_rfl) (by kernel_rfl) (by kernel_rfl) (by kernel_rfl) (fun _ _ _ h => h) (Or.inl ⟨by rfl, ?hy1⟩) hS0 ?rest1
    case hy1 => (intro W hW; (try dsimp only at hW); go_simp; try with_reducible rfl)
    simp only [Act.put, List.setIfInBounds_toArray, List.set_cons_zero, List.set_cons_succ]
    refine RG.takeF 2 (oi := ⟨some 13, _, _, _, _, _⟩) (v := ?_) rfl (by kernel_rfl) (by kernel_rfl) (by kernel_rfl) (by kernel_rfl) (fun _ _ _ h => h) (Or.inl ⟨by rfl, ?hy2⟩) hS0 ?rest2
    case hy2 => (intro W hW; (try dsimp only at hW); go_simp; try with_reducible rfl)
    simp only [Act.put, List.setIfInBounds_toArray, List.set_cons_zero, List.set_cons_succ]
    refine RG.takeF 3 (oi := ⟨some 14, _, _, _, _, _⟩) (v := ?_) rfl (by kernel_rfl) (by kernel_rfl) (by kernel_rfl) (by kernel_rfl) (fun _ _ _ h => h) (Or.inl ⟨by rfl, ?hy3⟩) hS0 ?rest3
    case hy3 => (intro W hW; (try dsimp only at hW); go_simp; try with_reducible rfl)
    simp only [Act.put, List.setIfInBounds_toArray, List.set_cons_zero, List.set_cons_succ]
    refine RG.takeF 4 (oi := ⟨some 15, _, _, _, _, _⟩) (v := ?_) rfl (by kernel_rfl) (by kernel_rfl) (by kernel_rfl) (by kernel_rfl) (fun _ _ _ h => h) (Or.inl ⟨by rfl, ?hy4⟩) hS0 ?rest4
    case hy4 => (intro W hW; (try dsimp only at hW); go_simp; try with_reducible rfl)
    simp only [Act.put, List.setIfInBounds_toArray, List.set_cons_zero, List.set_cons_succ]
    refine RG.takeF 5 (oi := ⟨some 16, _, _, _, _, _⟩) (v := ?_) rfl (by kernel_rfl) (by kernel_rfl) (by kernel_rfl) (by kernel_rfl) (fun _ _ _ h => h) (Or.inl ⟨by rfl, ?hy5⟩) hS0 ?rest5
    case hy5 => (intro W hW; (try dsimp only at hW); go_simp; try with_reducible rfl)
    simp only [Act.put, List.setIfInBounds_toArray, List.set_cons_zero, List.set_cons_succ]
    refine RG.takeF 6 (oi := ⟨some 17, _, _, _, _, _⟩) (v := ?_) rfl (by kernel_rfl) (by kernel_rfl) (by kernel_rfl) (by kernel_rfl) (fun _ _ _ h => h) (Or.inl ⟨by rfl, ?hy6⟩) hS0 ?rest6
    case hy6 => (intro W hW; (try dsimp only at hW); go_simp; try with_reducible rfl)
    simp only [Act.put, List.setIfInBounds_toArray, List.set_cons_zero, List.set_cons_succ]
    refine RG.takeF 7 (oi := ⟨some 18, _, _, _, _, _⟩) (v := ?_) rfl (by kernel_rfl) (by kernel_rfl) (by kernel_rfl) (by kernel_rfl) (fun _ _ _ h => h) (Or.inl ⟨by rfl, ?hy7⟩) hS0 ?rest7
    case hy7 => (intro W hW; (try dsimp only at hW); go_simp; try with_reducible rfl)
    simp only [Act.put, List.setIfInBounds_toArray, List.set_cons_zero, List.set_cons_succ]
    refine RG.oneF 8 (by kernel_rfl) (by decide) ?_
    refine RG.wpOp_plain rfl rfl fun K hK => ?_
    go_simp
    with_reducible refine (HV.out _).mono ?_
    rintro e w3 ⟨rfl, hb⟩
    have hB3 : Below w1.heap.size w1 w3 := hB0.trans (hb.mono hB0.size)
    refine hK _ _ ⟨hB3, ?_⟩
    clear hK K
    try simp only [Act.put, List.setIfInBounds_toArray, List.set_cons_zero, List.set_cons_succ]
    have hlv : (liveL (absE es) : Int) = lv := HLV.out
    rw [hlv]
    have hlb := lives_01 ⟨v1, v2, v3⟩
    obtain ⟨lx, hlx⟩ : ∃ lx, Val.lives ⟨v1, v2, v3⟩ = lx := ⟨_, rfl⟩
    have HLX := Lib.hid hlx
    rw [hlx] at hlb ⊢
    clear hlx
    refine RG.oneF 9 (by kernel_rfl) (by decide) ?_
    refine RG.wpOp_plain rfl rfl fun K hK => ?_
    go_simp
    refine hK _ _ ⟨hB3, ?_⟩
    clear hK K
    try simp only [Act.put, List.setIfInBounds_toArray, List.set_cons_zero, List.set_cons_succ]
    refine RG.oneF 10 (by kernel_rfl) (by decide) ?_
    refine RG.wpOp_plain rfl rfl fun K hK => ?_
    go_simp
    refine hK _ _ ⟨hB3, ?_⟩
    clear hK K
    try simp only [Act.put, List.setIfInBounds_toArray, List.set_cons_zero, List.set_cons_succ]
    refine RG.oneF 11 (by kernel_rfl) (by decide) ?_
    refine RG.wpOp_plain rfl rfl fun K hK => ?_
    go_simp
    refine hK _ _ ⟨hB3, ?_⟩
    clear hK K
    try simp only [Act.put, List.setIfInBounds_toArray, List.set_cons_zero, List.set_cons_succ]
    have hd3 := (HI1.out.below hB3).mem.hd
    have x3 := hd3.cell 3 _ rfl
    have f3 := hd3.frozen 3
    refine RG.lastF (by kernel_rfl) (by kernel_rfl) ?_
    refine RG.wpOp_plain rfl rfl fun K hK => ?_
    go_simp
    refine hK _ _ ?_
    clear hK K
    try simp only [Act.put, List.setIfInBounds_toArray, List.set_cons_zero, List.set_cons_succ]
    have hI3 := HI1.out.below hB3
    have hdg : d ≠ g := blk_ne_row hI3.mem.hd hI3.mem.rows rfl (by decide)
    have hdt : d ≠ tb := hI3.mem.hd.ne hI3.mem.tab (by decide)
    have hgt : tb ≠ g := blk_ne_row hI3.mem.tab hI3.mem.rows rfl (by decide)
    have HI3 := Lib.hid hI3
    have hd4 := hd3.setSame 3 (.int .i64 (lv - lx))
    have c2 := hd4.cell 2 _ rfl
    have f2 := hd4.frozen 2
    have hr0 := row_frozen hI3.mem.rows
    have r0 := hr0 (i * 7)
    have r1 := hr0 (i * 7 + 1)
    have r2 := hr0 (i * 7 + 2)
    have r3 := hr0 (i * 7 + 3)
    have r4 := hr0 (i * 7 + 4)
    have r5 := hr0 (i * 7 + 5)
    have r6 := hr0 (i * 7 + 6)
    obtain ⟨g', cap', he, _, _, hcl⟩ := hI3.mem.cell_ent H4.out
    cases he
    have y0 := hcl 0 _ (by decide) rfl
    have y1 := hcl 1 _ (by decide) rfl
    have y2 := hcl 2 _ (by decide) rfl
    have y3 := hcl 3 _ (by decide) rfl
    have y4 := hcl 4 _ (by decide) rfl
    have y5 := hcl 5 _ (by decide) rfl
    have y6 := hcl 6 _ (by decide) rfl
    rw [Nat.add_zero] at y0
    have HB3 := Lib.hid hB3
    clear hI3 hr0 hcl
    go_wp2
    go_ret
    have HB4 := Lib.hid (HB1.out.trans (HB3.out.mono HB1.out.size))
    refine ⟨rfl, ⟨es.set i none, _, tb, T, HI3.out.dropped H4.out _ _ rfl (by rw [HLV.out, HLX.out]), ?_, ?_⟩, ?_⟩
    · rw [← HL.out]
      exact absE_drop HI3.out.uniq (getD_of_get H4.out)
    · rw [List.length_set]; exact HN.out
    · have hg : X g := HI3.out.ownE g rfl
      have hdX : X d := HI3.out.ownD
      exact ((((((((((Chg.ofBelow HB4.out).setCell (fun _ => hdX) _).setCell (fun _ => hdX) _).setCell (fun _ => hg) _).setCell (fun _ => hg) _).setCell (fun _ => hg) _).setCell (fun _ => hg) _).setCell (fun _ => hg) _).setCell (fun _ => hg) _).setCell (fun _ => hg) _)
  · rw [h3] at HE
    rw [h1, if_neg (by decide)]
    rw [show entP ev (-1) = .pointer none from rfl] at HE
    clear h h1 h2 h3
    obtain ⟨x1, x2, x3⟩ := x
    go_enter Try.func45, Try.ntmps45
    go_wp2_with (go_at_call 108; (with_reducible refine (HE.out _ (HI.out.below HB0.out)).mono ?_); rintro e w1 ⟨rfl, hb⟩; have HB1 := Lib.hid (HB0.out.trans (hb.mono HB0.out.size)); clear hb)
    go_ret
    exact ⟨rfl, HD.out.below HB1.out, Chg.ofBelow HB1.out⟩
end
end Go.Proofs.Ytmjfmfelbmbniaa

/- Layer 13: the table is laid anew. -/
namespace Go.Proofs.Ytmjfmfelbmbniaa
open Go.RowKit Go.Maps HK ShM
set_option linter.unusedVariables false
set_option linter.unusedSimpArgs false
theorem info190 : (Try.prog.info? 190).map (fun i => (i.zero, i.size, i.bytes)) = some (some (.agg #[.int .i64 0, .int .i64 0, .string ByteArray.empty, .int .i64 0, .int .i64 0, .string ByteArray.empty, .bool false]), 7, 72) := by kernel_rfl
abbrev someE (L : Pairs) : List Ent := L.map some
theorem absE_someE (L : Pairs) : absE (someE L) = L := by
  induction L with
  | nil => rfl
  | cons x r ih => rw [someE, List.map_cons, absE_some]; rw [someE] at ih; rw [ih]
theorem absE_take_none {es : List Ent} {j : Nat} (h : es[j]? = some none) : absE (es.take (j + 1)) = absE (es.take j) := by
  obtain ⟨hlt, he⟩ := List.getElem?_eq_some_iff.1 h
  rw [List.take_succ_eq_append_getElem hlt, he, absE_append]
  simp [absE]
theorem absE_take_some {es : List Ent} {j : Nat} {x : Val × Val} (h : es[j]? = some (some x)) : absE (es.take (j + 1)) = absE (es.take j) ++ [x] := by
  obtain ⟨hlt, he⟩ := List.getElem?_eq_some_iff.1 h
  rw [List.take_succ_eq_append_getElem hlt, he, absE_append]
  simp [absE]
theorem flatE_oneCell (l : List Ent) : ∀ u ∈ flatE l, u.oneCell' = true := by
  intro u hu
  obtain ⟨x, _, hx⟩ := List.mem_flatMap.1 hu
  rcases x with _ | ⟨k, v⟩ <;> · simp [Ent.cells] at hx; rcases hx with rfl | rfl | rfl | rfl | rfl | rfl | rfl <;> rfl
/-- An entry behind a row of entries. -/
theorem run_append_ent (w : World) (base b : Nat) (x : Ent) (hb : Blk w b 190 x.cells) (v : Value) (es : List Ent) (ho : w.ownsRow base 190 7 v es.length (flatE es)) (hl : es.length ≤ 1048576) (hbase : base ≤ w.heap.size) :
    ∃ v' w', (Builtin.append_ #[183, 183] 183 #[v, .slice (some ⟨b, 0, none⟩) 1 1]).run Try.prog w = .ok v' w' ∧ w'.ownsRow base 190 7 v' (es.length + 1) (flatE (es ++ [x])) ∧ w.grownBy w' v.ownBlock ∧ (v'.ownBlock = v.ownBlock ∨ v'.ownBlock = some w.heap.size) := by
  obtain ⟨i0, hi, hz0, hz1, hz2⟩ := info_parts info190
  obtain ⟨v', w', r1, r2, r3, r4, r5⟩ := run_append_own_at (P := Try.prog) w base 183 183 190 i0 _ 7 72 Try.underlying183 hi hz0 hz1 hz2 rfl (by decide) v es.length _ ho ⟨b, 0, none⟩ 1 1 x.cells (by rw [Ent.cells_len]) (fun j u hu => by rw [addr0]; exact hb.cell j u hu)
    (fun u hu => flatE_oneCell [x] u (by simpa [flatE] using hu)) (by have : maxLen = 9223372036854775807 := rfl; omega) (by omega) hbase
  refine ⟨v', w', r1, ?_, r3, r5⟩
  rw [flatE_append, show flatE [x] = x.cells by simp [flatE]]
  exact r2
theorem uniq_cons {k v : Val} {r : List Ent} (h : Uniq r) (ha : ∀ i w, r.getD i none ≠ some (k, w)) : Uniq (some (k, v) :: r) := fun a b k' v' w' h1 h2 => by
  cases a with
  | zero =>
    cases b with
    | zero => rfl
    | succ b =>
      simp at h1
      obtain ⟨rfl, rfl⟩ := h1
      exact absurd (by simpa using h2) (ha b w')
  | succ a =>
    cases b with
    | zero =>
      simp at h2
      obtain ⟨rfl, rfl⟩ := h2
      exact absurd (by simpa using h1) (ha a v')
    | succ b =>
      have := h a b k' v' w' (by simpa using h1) (by simpa using h2); omega
theorem getD_someE {L : Pairs} {i : Nat} {x : Val × Val} (h : (someE L).getD i none = some x) : x ∈ L := by
  have : x ∈ absE (someE L) := mem_absE.2 ⟨i, h⟩
  rwa [absE_someE] at this
theorem uniq_someE : ∀ {es : List Ent}, Uniq es → Uniq (someE (absE es))
  | [], _ => fun i j k v w h _ => by simp [absE_nil] at h
  | none :: r, h => by rw [absE_none]; exact uniq_someE (uniq_tail h)
  | some (k, v) :: r, h => by
    rw [absE_some, someE, List.map_cons]
    refine uniq_cons (uniq_someE (uniq_tail h)) (fun i w hi => ?_)
    obtain ⟨i', hi'⟩ := mem_absE.1 (getD_someE hi)
    exact uniq_head h i' w hi'
theorem getD_take {es : List Ent} {j i : Nat} {x : Val × Val} (h : (es.take j).getD i none = some x) : i < j ∧ es.getD i none = some x := by
  rw [List.getD_eq_getElem?_getD, List.getElem?_take] at h
  split at h
  · rename_i hlt
    exact ⟨hlt, by rw [List.getD_eq_getElem?_getD]; exact h⟩
  · cases h
theorem row_full {w : World} {base : Nat} {e : TypeId} {g n : Nat} {xs : List Value} (h : w.ownsRow base e 1 (.slice (some ⟨g, 0, none⟩) n n) n xs) : Blk w g e xs := by
  rcases h.2 with ⟨h2, _⟩ | ⟨g', cap', cur, h2, h3, h4, h5, h6, h7, h8⟩
  · cases h2
  · cases h2
    rw [List.take_of_length_le (by simp; omega)] at h8
    unfold Blk
    rw [h4, ← h8]
section
variable {w w' : World} {X : Nat → Prop} {d tb : Nat} {ev : Value} {T : List Nat} {es : List Ent}
theorem DMem.setTab {dr lv : Int} (h : DMem w d ev tb T es dr lv) (p x : Nat) : DMem (w.setCell ⟨tb, p, none⟩ (.int .i64 (x : Nat))) d ev tb (T.set p x) es dr lv := by
  refine ⟨?_, ?_, ?_⟩
  · rw [List.length_set]
    exact h.hd.setOther (h.hd.ne h.tab (by decide)) _
  · exact ownsRow_of h.rows (fun g hg => Below.heap_setCell _ _ _ _ (fun e => blk_ne_row h.tab h.rows hg (by decide) e.symm))
  · rw [List.map_set]
    exact h.tab.setSame p _
set_option maxHeartbeats 4000000 in
set_option maxRecDepth 20000 in
theorem dlay_calls (h : DIn w X d es ev tb T) (hN : es.length ≤ 131072) : Calls Try.prog 110 #[.pointer (some ⟨d, 0, none⟩)] w fun e w' => e = .returned (.tuple #[]) ∧ ∃ X' ev' tb' T', DIn w' X' d (someE (absE es)) ev' tb' T' ∧ (∀ b, X' b → b = d ∨ w.heap.size ≤ b) ∧ Chg (fun b => b = d) w w' ∧ 4 * ((absE es).length + 1) ≤ 3 * T'.length := by
  have HI := Lib.hid h
  obtain ⟨ea, ec, hev⟩ := ownsRow_form h.mem.rows
  subst hev
  have HC : Hid (∀ W, Below w.heap.size w W → ∀ j x, es[j]? = some x → ∃ g, ea = some ⟨g, 0, none⟩ ∧ ∀ c u, c < 7 → x.cells[c]? = some u → W.cell? ⟨g, j * 7 + c, none⟩ = some u) := Lib.hid (fun W hW j x hj => by
    obtain ⟨g, cap, he, _, _, hc⟩ := (HI.out.below hW).mem.cell_ent hj
    cases he
    exact ⟨g, rfl, hc⟩)
  have hecap : es.length ≤ ec ∧ ec ≤ 9223372036854775807 := by
    rcases HI.out.mem.rows.2 with ⟨he, hn⟩ | ⟨g, cap, cur, he, _, _, hc, hm, _⟩
    · simp at he; exact ⟨by omega, by omega⟩
    · cases he; exact ⟨hc, hm⟩
  obtain ⟨hec1, hec2⟩ := hecap
  have c0 := h.mem.hd.cell 0 _ rfl
  have hd0 := h.mem.hd.lt
  obtain ⟨m, hm⟩ : ∃ m, m = es.length := ⟨_, rfl⟩
  have EM := Lib.hid hm
  have HN := Lib.hid hN
  rw [← hm] at c0 hec1
  clear h hm hN
  go_enter Try.func110, Try.ntmps110
  go_wp2_with fail
  go_loopw [2, 15] (fun lv ii wr => ∃ j : Nat, j ≤ m ∧ ii = .int .i64 j ∧ Hid (Below w.heap.size w wr ∧ wr.ownsRow w.heap.size 190 7 lv (someE (absE (es.take j))).length (flatE (someE (absE (es.take j)))))) (fun _ ii _ => m - (intOf ii).toNat)
  case atStart => exact ⟨0, Nat.zero_le _, rfl, Lib.hid ⟨Below.refl _ _, by exact World.ownsRow_nil _ _ _ _⟩⟩
  case round =>
    obtain ⟨j, hj, rfl, hre⟩ := hrel
    by_cases hlt : j < m
    · have hjl : j < es.length := by rw [← EM.out]; exact hlt
      obtain ⟨y, hy⟩ : ∃ y, es[j]? = some y := ⟨_, List.getElem?_eq_getElem hjl⟩
      obtain ⟨g, rfl, hcell⟩ := HC.out wr hre.out.1 j y hy
      have hj0 : (0 : Int) ≤ (j : Int) := by omega
      have hj1 : (j : Int) < (m : Int) := by omega
      have u0 := hcell 0
      have u1 := hcell 1
      have u2 := hcell 2
      have u3 := hcell 3
      have u4 := hcell 4
      have u5 := hcell 5
      have u6 := hcell 6
      have HY := Lib.hid hy
      clear hcell hjl hy
      cases y with
      | none =>
        have u0 := u0 _ (by decide) rfl
        have u1 := u1 _ (by decide) rfl
        have u2 := u2 _ (by decide) rfl
        have u3 := u3 _ (by decide) rfl
        have u4 := u4 _ (by decide) rfl
        have u5 := u5 _ (by decide) rfl
        have u6 := u6 _ (by decide) rfl
        rw [Nat.add_zero] at u0
        go_wp2_with fail
        go_roundw
        case rel => exact ⟨j + 1, by omega, by go_num, Lib.hid ⟨hre.out.1.alloc hre.out.1.size _, by rw [absE_take_none HY.out]; exact hre.out.2.alloc _⟩⟩
        case measure => simp [intOf]; omega
      | some kv =>
        obtain ⟨k, v⟩ := kv
        have u0 := u0 _ (by decide) rfl
        have u1 := u1 _ (by decide) rfl
        have u2 := u2 _ (by decide) rfl
        have u3 := u3 _ (by decide) rfl
        have u4 := u4 _ (by decide) rfl
        have u5 := u5 _ (by decide) rfl
        have u6 := u6 _ (by decide) rfl
        rw [Nat.add_zero] at u0
        have hb1 : Below w.heap.size w (wr.alloc (.cells #[.int .i64 k.k, .int .i64 k.n, .string k.s, .int .i64 v.k, .int .i64 v.n, .string v.s, .bool true] 190)) := hre.out.1.alloc hre.out.1.size _
        have hb2 : Below w.heap.size w ((wr.alloc (.cells #[.int .i64 k.k, .int .i64 k.n, .string k.s, .int .i64 v.k, .int .i64 v.n, .string v.s, .bool true] 190)).alloc (.cells #[.int .i64 k.k, .int .i64 k.n, .string k.s, .int .i64 v.k, .int .i64 v.n, .string v.s, .bool true] 190)) := hb1.alloc hb1.size _
        have hnb := Blk.new (wr.alloc (.cells #[.int .i64 k.k, .int .i64 k.n, .string k.s, .int .i64 v.k, .int .i64 v.n, .string v.s, .bool true] 190)) [.int .i64 k.k, .int .i64 k.n, .string k.s, .int .i64 v.k, .int .i64 v.n, .string v.s, .bool true] 190
        have hln : (someE (absE (es.take j))).length ≤ 1048576 := by
          have h1 := absE_len (es.take j)
          have h2 : (es.take j).length ≤ es.length := by rw [List.length_take]; omega
          have h3 := HN.out
          rw [someE, List.length_map]; omega
        obtain ⟨la, lc, rfl⟩ := ownsRow_form hre.out.2
        have hsz : (wr.alloc (.cells #[.int .i64 k.k, .int .i64 k.n, .string k.s, .int .i64 v.k, .int .i64 v.n, .string v.s, .bool true] 190)).heap.size = wr.heap.size + 1 := by simp
        rw [hsz] at hnb
        obtain ⟨v', w', r, o, gr, at'⟩ := run_append_ent _ w.heap.size _ (some (k, v)) hnb _ _ ((hre.out.2.alloc _).alloc _) hln hb2.size
        have R := Lib.hid r
        have HO : Hid (w'.ownsRow w.heap.size 190 7 v' (someE (absE (es.take (j + 1)))).length (flatE (someE (absE (es.take (j + 1)))))) := Lib.hid (by
          rw [absE_take_some HY.out]
          simpa [someE] using o)
        have HB := Lib.hid (hb2.grown gr hb2.size (fun q hq => (hre.out.2.lt q hq).1))
        clear r o gr at' hb1 hb2 hnb hsz hln
        generalize (someE (absE (es.take j))).length = ln at *
        go_wp2_with (at_builtin; refine RG.wpList_append_run (v := .slice la ln lc) (v2 := .slice (some ⟨wr.heap.size + 1, 0, none⟩) 1 1) rfl _ _ 183 183 rfl rfl rfl R.out ?_; try simp only [Act.put, List.setIfInBounds_toArray, List.set_cons_zero, List.set_cons_succ])
        go_roundw
        case rel => exact ⟨j + 1, by omega, by go_num, Lib.hid ⟨HB.out, HO.out⟩⟩
        case measure => simp [intOf]; omega
    · obtain rfl : j = m := by omega
      have hre := hre.out
      rw [List.take_of_length_le (by rw [← EM.out]; exact Nat.le_refl _)] at hre
      obtain ⟨la, lc, rfl⟩ := ownsRow_form hre.2
      have hdr := HI.out.mem.hd.of (hre.1.block d hd0)
      have x0 := hdr.cell 0 _ rfl
      have x2 := hdr.cell 2 _ rfl
      have f0 := hdr.frozen 0
      have f2 := hdr.frozen 2
      have HR := Lib.hid hre
      have hn := HN.out
      have hln : (someE (absE es)).length ≤ 131072 := by rw [someE, List.length_map]; have := absE_len es; omega
      obtain ⟨n, en⟩ : ∃ n, n = (someE (absE es)).length := ⟨_, rfl⟩
      have EN := Lib.hid en
      rw [← en] at hln
      rw [← en]
      clear hre hdr en
      go_wp2_with fail
      go_loop [5] (fun sv => ∃ z : Nat, 8 ≤ z ∧ (z = 8 ∨ z < 4 * (n + 1)) ∧ sv = .int .i64 z ∧ Hid (∃ q, z = 2 ^ q ∧ 3 ≤ q)) (fun sv => 2 * (n + 1) - (intOf sv).toNat)
      case atStart => exact ⟨8, by omega, .inl rfl, rfl, Lib.hid ⟨3, rfl, by omega⟩⟩
      case round =>
        obtain ⟨z, hz8, hzn, rfl, hzq⟩ := hrel
        have hz0 : (0 : Int) ≤ (z : Int) := by omega
        have hz1 : (z : Int) ≤ 524292 := by omega
        by_cases hlt : z < 2 * (n + 1)
        · have hlt' : (z : Int) < 2 * ((n : Int) + 1) := by omega
          go_wp2_with fail
          go_round
          case rel => exact ⟨z * 2, by omega, by omega, by go_num, Lib.hid (by obtain ⟨q, h1, h2⟩ := hzq.out; exact ⟨q + 1, by rw [h1, Nat.pow_succ], by omega⟩)⟩
          case measure => simp [intOf]; omega
        · have hlt' : ¬ (z : Int) < 2 * ((n : Int) + 1) := by omega
          obtain ⟨i3, hi3, hz3, hz31, hz32⟩ := info_parts info3
          have hdr := HI.out.mem.hd.of (HR.out.1.block d hd0)
          have hdr2 := (hdr.setSame 0 (.slice la n lc)).setSame 2 (.int .i64 0)
          have hC2 : Chg (fun b => b = d) w ((wr.setCell ⟨d, 0, none⟩ (.slice la n lc)).setCell ⟨d, 2, none⟩ (.int .i64 0)) := ((Chg.ofBelow HR.out.1 : Chg (fun b => b = d) w wr).setCell (a := ⟨d, 0, none⟩) (fun _ => rfl) _).setCell (a := ⟨d, 2, none⟩) (fun _ => rfl) _
          have hrow2 := HR.out.2
          rw [← EN.out] at hrow2
          have hge : ∀ g, (Value.slice la n lc).ownBlock = some g → w.heap.size ≤ g ∧ g < wr.heap.size := fun g hg => hrow2.lt g hg
          have hne : ∀ g, (Value.slice la n lc).ownBlock = some g → g ≠ d := fun g hg e => by have := (hge g hg).1; omega
          have hrow3 := ownsRow_of (w' := (wr.setCell ⟨d, 0, none⟩ (.slice la n lc)).setCell ⟨d, 2, none⟩ (.int .i64 0)) hrow2 (fun g hg => (Below.heap_setCell _ _ _ _ (hne g hg)).trans (Below.heap_setCell _ _ _ _ (hne g hg)))
          have HDR := Lib.hid hdr2
          have HC2 := Lib.hid hC2
          have HROW := Lib.hid hrow3
          have HGE := Lib.hid hge
          have hws : wr.heap.size = ((wr.setCell ⟨d, 0, none⟩ (.slice la n lc)).setCell ⟨d, 2, none⟩ (.int .i64 0)).heap.size := by simp
          have HWS := Lib.hid hws
          have hbase : w.heap.size ≤ wr.heap.size := HR.out.1.size
          have HBASE := Lib.hid hbase
          clear x0 x2 f0 f2 hdr hdr2 hC2 hrow2 hge hne hrow3 hws hbase
          go_wp2_with (at_make; refine wpList_make_full _ rfl _ _ 46 rfl w.heap.size 3 i3 (.int .i64 0) 1 Try.underlying46 hi3 hz3 hz31 .i64 .i64 z z z rfl rfl rfl rfl (by rw [hz32]; omega) (by have : maxLen = 9223372036854775807 := rfl; omega) (by rw [← HWS.out]; exact HBASE.out) ?_; intro w3 hrow hgr; have hd3 := HDR.out.of (hgr.block d HDR.out.lt (fun e => by cases e)); have x0 := hd3.cell 0 _ rfl; have x1 := hd3.cell 1 _ rfl; have f1 := hd3.frozen 1; have HD3 := Lib.hid hd3; have HT3 := Lib.hid hrow; have HG3 := Lib.hid hgr; clear hd3 hrow hgr)
          obtain ⟨E, hE⟩ : ∃ E, E = someE (absE es) := ⟨_, rfl⟩
          have HE := Lib.hid hE
          have hdd : d ≠ wr.heap.size := by have := HBASE.out; omega
          have hM : DMem (w3.setCell ⟨d, 1, none⟩ (.slice (some ⟨wr.heap.size, 0, none⟩) z z)) d (.slice la n lc) wr.heap.size (List.replicate z 0) E ((E.length : Int) - (absE E).length) (liveL (absE E)) := by
            refine ⟨?_, ?_, ?_⟩
            · have h1 := HD3.out.setSame 1 (.slice (some ⟨wr.heap.size, 0, none⟩) z z)
              have e1 : (E.length : Int) - (absE E).length = 0 := by rw [hE, absE_someE, someE, List.length_map]; omega
              have e2 : absE E = absE es := by rw [hE, absE_someE]
              rw [e1, e2, List.length_replicate]
              exact h1
            · have h1 := ownsRow_of (w' := w3.setCell ⟨d, 1, none⟩ (.slice (some ⟨wr.heap.size, 0, none⟩) z z)) HROW.out (fun g hg => by
                have h2 := HGE.out g hg
                exact (Below.heap_setCell _ _ _ _ (fun e => by have h3 : g = d := e; omega)).trans (HG3.out.block g (by rw [← HWS.out]; exact h2.2) (fun e => by cases e)))
              rw [hE, ← EN.out]
              exact h1.mono (Nat.zero_le _)
            · have h1 := HT3.out
              rw [← HWS.out, Nat.mul_one, show (Value.int .i64 0).cells = #[.int .i64 0] from rfl, toList_madeCells_one] at h1
              have h2 := (row_full h1).setOther (a := ⟨d, 1, none⟩) (Ne.symm hdd) (.slice (some ⟨wr.heap.size, 0, none⟩) z z)
              rw [List.map_replicate]
              exact h2
          have hTab : TabOK (List.replicate z 0) [] := by
            obtain ⟨q, h1, h2⟩ := hzq.out
            have h3 : q ≤ 20 := by
              rcases Nat.lt_or_ge 20 q with h' | h'
              · have : 2 ^ 21 ≤ 2 ^ q := Nat.pow_le_pow_right (by decide) h'
                omega
              · exact h'
            rw [h1]; exact TabOK.none q h2 h3
          have hC4 : Chg (fun b => b = d) w (w3.setCell ⟨d, 1, none⟩ (.slice (some ⟨wr.heap.size, 0, none⟩) z z)) := (HC2.out.grown HG3.out (fun k e => by cases e)).setCell (a := ⟨d, 1, none⟩) (fun _ => rfl) _
          have hEn : E.length = n := by rw [hE, ← EN.out]
          have hEu : Uniq E := by rw [hE]; exact uniq_someE HI.out.uniq
          have hEc : ∀ i k v, E.getD i none = some (k, v) → Canon k := fun i k v hi => by
            rw [hE] at hi
            obtain ⟨i', hi'⟩ := mem_absE.1 (getD_someE hi)
            exact HI.out.canon i' k v hi'
          have hEs : ∀ i x, E[i]? = some x → ∃ k v, x = some (k, v) := fun i x hi => by
            rw [hE, someE, List.getElem?_map] at hi
            obtain ⟨⟨k, v⟩, _, rfl⟩ := Option.map_eq_some_iff.1 hi
            exact ⟨k, v, rfl⟩
          have hgd : ∀ g, (Value.slice la n lc).ownBlock = some g → w.heap.size ≤ g := fun g hg => (HGE.out g hg).1
          have HM := Lib.hid hM
          have HTB := Lib.hid hTab
          have HC4 := Lib.hid hC4
          have HEN := Lib.hid hEn
          have HEU := Lib.hid hEu
          have HEC := Lib.hid hEc
          have HES := Lib.hid hEs
          have HGD := Lib.hid hgd
          have hlc : n ≤ lc ∧ lc ≤ 9223372036854775807 := by
            rcases HROW.out.2 with ⟨he, hn⟩ | ⟨g, cap, cur, he, _, _, hc, hm, _⟩
            · simp at he; exact ⟨by omega, by omega⟩
            · cases he; exact ⟨hc, hm⟩
          obtain ⟨hlc1, hlc2⟩ := hlc
          clear hM hTab hC4 hEn hEu hEc hEs hgd hdd hE HDR HC2 HROW HD3 HT3 HG3 HWS x0 x1 f1
          obtain ⟨tb', htb⟩ : ∃ tb', tb' = wr.heap.size := ⟨_, rfl⟩
          have HTBB : Hid (w.heap.size ≤ tb') := Lib.hid (by rw [htb]; exact HBASE.out)
          rw [← htb] at HM HC4
          rw [← htb]
          generalize w3.setCell ⟨d, 1, none⟩ (.slice (some ⟨tb', 0, none⟩) z z) = w4 at *
          clear htb
          go_loopw [51] (fun ii wr => ∃ (q : Nat) (T' : List Nat), q ≤ n ∧ ii = .int .i64 q ∧ Hid (DMem wr d (.slice la n lc) tb' T' E ((E.length : Int) - (absE E).length) (liveL (absE E)) ∧ TabOK T' (E.take q) ∧ T'.length = z ∧ Chg (fun b => b = d) w wr)) (fun ii _ => n - (intOf ii).toNat)
          case atStart => exact ⟨0, _, Nat.zero_le _, rfl, Lib.hid ⟨HM.out, HTB.out, by simp, HC4.out⟩⟩
          case round =>
            obtain ⟨q, T', hq, rfl, hre⟩ := hrel
            by_cases hlt : q < n
            · have hql : q < E.length := by rw [HEN.out]; exact hlt
              obtain ⟨y, hy⟩ : ∃ y, E[q]? = some y := ⟨_, List.getElem?_eq_getElem hql⟩
              obtain ⟨k, v, rfl⟩ := HES.out q y hy
              obtain ⟨g, cap, heq, _, _, hcell⟩ := hre.out.1.cell_ent hy
              cases heq
              have u0 := hcell 0 _ (by decide) rfl
              have u1 := hcell 1 _ (by decide) rfl
              have u2 := hcell 2 _ (by decide) rfl
              have u3 := hcell 3 _ (by decide) rfl
              have u4 := hcell 4 _ (by decide) rfl
              have u5 := hcell 5 _ (by decide) rfl
              have u6 := hcell 6 _ (by decide) rfl
              rw [Nat.add_zero] at u0
              have c0 := hre.out.1.hd.cell 0 _ rfl
              have hq0 : (0 : Int) ≤ (q : Int) := by omega
              have hq1 : (q : Int) < (E.length : Int) := by omega
              have hyD := getD_of_get hy
              have hkc := HEC.out q k v hyD
              have hTl : (E.take q).length = q := by rw [List.length_take]; omega
              have hab : ∀ x w', (E.take q).getD x none ≠ some (k, w') := fun x w' hx => by
                obtain ⟨h1, h2⟩ := getD_take hx
                have := HEU.out x q k w' v h2 hyD
                omega
              have hput := hre.out.2.1.put hab v (by rw [hTl, hre.out.2.2.1]; omega)
              rw [hTl] at hput
              have htk : E.take (q + 1) = E.take q ++ [some (k, v)] := by
                obtain ⟨h1, h2⟩ := List.getElem?_eq_some_iff.1 hy
                rw [List.take_succ_eq_append_getElem h1, h2]
              rw [← htk] at hput
              have hcg : findM T' E k = findM T' (E.take q) k := probe_congr (fun x hx h0 => by
                have := hre.out.2.1.le x hx
                rw [hTl] at this
                simp only [List.getD_eq_getElem?_getD]
                rw [List.getElem?_take, if_pos (by omega)]) _ _
              have hF := fun (W : World) (h : DMem W d (.slice (some ⟨g, 0, none⟩) E.length lc) tb' T' E ((E.length : Int) - (absE E).length) (liveL (absE E))) => find_calls h hre.out.2.1.pow hre.out.2.1.big hre.out.2.1.top (fun x hx => by have := hre.out.2.1.le x hx; rw [hTl] at this; omega) hre.out.2.1.zero k hkc.2.2
              obtain ⟨jj, hj1, _⟩ := hre.out.2.1.absent hab
              have hatl : (findM T' (E.take q) k).1 < T'.length := by
                rw [hj1]; exact Nat.mod_lt _ (by have := hre.out.2.1.big; omega)
              rw [hcg] at hF
              generalize (findM T' (E.take q) k).2 = pl at *
              generalize (findM T' (E.take q) k).1 = p at *
              have HF := Lib.hid hF
              have HPUT := Lib.hid hput
              have HR := Lib.hid hre.out
              have HAT := Lib.hid hatl
              have hat0 : (0 : Int) ≤ (p : Int) := by omega
              have hat1 : (p : Int) < (z : Int) := by rw [hre.out.2.2.1] at hatl; omega
              have hb2 : Below wr.heap.size wr (wr.alloc (.cells #[.int .i64 k.k, .int .i64 k.n, .string k.s, .int .i64 v.k, .int .i64 v.n, .string v.s, .bool true] 190)) := (Below.refl _ _).alloc (Nat.le_refl _) _
              have hbx : Blk (wr.alloc (.cells #[.int .i64 k.k, .int .i64 k.n, .string k.s, .int .i64 v.k, .int .i64 v.n, .string v.s, .bool true] 190)) wr.heap.size 190 [.int .i64 k.k, .int .i64 k.n, .string k.s, .int .i64 v.k, .int .i64 v.n, .string v.s, .bool true] := Blk.new wr [.int .i64 k.k, .int .i64 k.n, .string k.s, .int .i64 v.k, .int .i64 v.n, .string v.s, .bool true] 190
              have HB2 := Lib.hid hb2
              clear hcell hy hyD hkc hTl hab hput htk hcg hF hj1 hatl hql hre hb2
              have b0 := hbx.cell 0 _ rfl
              have b1 := hbx.cell 1 _ rfl
              have b2 := hbx.cell 2 _ rfl
              clear hbx
              obtain ⟨k1, k2, k3⟩ := k
              go_wp2_with (go_at_call 111; (with_reducible refine (HF.out _ (by exact HR.out.1.below HB2.out)).mono ?_); rintro e w5 ⟨rfl, hb⟩; have HB5 := Lib.hid (HB2.out.trans (hb.mono HB2.out.size)); have HM5 := Lib.hid (HR.out.1.below HB5.out); clear hb; have c1 := HM5.out.hd.cell 1 _ rfl; rw [HR.out.2.2.1] at c1; have tt := HM5.out.cell_tab HAT.out; have tf := HM5.out.tab.frozen p)
              go_roundw
              case rel => exact ⟨q + 1, T'.set p (q + 1), by omega, by go_num, Lib.hid ⟨by have h1 := HM5.out.setTab p (q + 1); rwa [show (((q + 1 : Nat) : Int)) = (q : Int) + 1 by omega] at h1, HPUT.out, by rw [List.length_set]; exact HR.out.2.2.1, (HR.out.2.2.2.trans (Chg.ofBelow HB5.out) (fun b hb h => h)).setCell (a := ⟨tb', p, none⟩) (fun h => absurd h (by have := HTBB.out; show ¬ tb' < _; omega)) _⟩⟩
              case measure => simp [intOf]; omega
            · obtain rfl : q = n := by omega
              have HR := Lib.hid hre.out
              go_wp2_with fail
              refine bodyPost_end (by simp [results, Try.results110, go_sem]) rfl ⟨rfl, fun b => b = d ∨ b = tb' ∨ (Value.slice la q lc).ownBlock = some b, .slice la q lc, tb', T', ?_, ?_, HR.out.2.2.2, ?_⟩
              · have h1 := HR.out
                rw [← HEN.out, List.take_length] at h1
                rw [← HE.out]
                rw [← HEN.out]
                exact ⟨h1.1, h1.2.1, HEU.out, HEC.out, .inl rfl, .inr (.inl rfl), fun g hg => .inr (.inr hg), fun b hb => by
                  rcases hb with rfl | rfl | hb
                  · exact h1.1.hd.lt
                  · exact h1.1.tab.lt
                  · exact (h1.1.rows.lt b hb).2⟩
              · intro b hb
                rcases hb with rfl | rfl | hb
                · exact .inl rfl
                · exact .inr HTBB.out
                · exact .inr (HGD.out b hb)
              · rw [HR.out.2.2.1]
                have := EN.out
                rw [someE, List.length_map] at this
                omega
end
end Go.Proofs.Ytmjfmfelbmbniaa

/- Layer 13: a value written anew, a key added: what they make of the memory. Plain lemmas. -/
namespace Go.Proofs.Ytmjfmfelbmbniaa
open Go.RowKit Go.Maps HK ShM
set_option linter.unusedVariables false
set_option linter.unusedSimpArgs false
def setL (L : Pairs) (x v : Val) : Pairs := if x.bad then L else match getA L (keyV x) with
  | some _ => setA L (keyV x) v.own
  | none => if v.own.k = 0 then L else L ++ [(keyV x, v.own)]
def setF (L : Pairs) (x v : Val) : Bool := !x.bad && (getA L (keyV x)).isNone && !decide (v.own.k = 0)
theorem own_key (x : Val) (hb : x.bad = false) : x.own.own = x.own ∧ x.own.bad = false := by
  obtain ⟨k, n, s⟩ := x
  simp only [Val.bad, Val.strange, Bool.or_eq_false_iff, decide_eq_false_iff_not] at hb
  obtain ⟨h0, h1, h2⟩ := hb
  have h7 : k = 1 ∨ k = 2 ∨ k = 3 ∨ k = 4 ∨ k = 5 ∨ k = 6 ∨ k = 7 := by omega
  rcases h7 with rfl | rfl | rfl | rfl | rfl | rfl | rfl
  · by_cases h : n = 0 <;> simp [Val.own, Val.bad, Val.strange, h]
  all_goals simp [Val.own, Val.bad, Val.strange]
theorem keyV_key (x : Val) (hb : x.bad = false) : keyV (keyV x) = keyV x ∧ (keyV x).bad = false := by
  have h := own_key x hb
  have e : keyV x = x.own := by unfold keyV; rw [hb]; rfl
  rw [e]
  refine ⟨?_, h.2⟩
  unfold keyV
  rw [h.2]
  exact h.1
theorem canon_key (x : Val) (hb : x.bad = false) (hx : x.s.size ≤ maxLen) : Canon (keyV x) := by
  have h := own_key x hb
  have e : keyV x = x.own := by unfold keyV; rw [hb]; rfl
  exact ⟨by rw [e]; exact h.1, (keyV_key x hb).2, keyV_size hx⟩
section
variable {w w' : World} {X : Nat → Prop} {d N : Nat} {L : Pairs}
theorem DIn.setv {es : List Ent} {g cap tb i : Nat} {T : List Nat} {k v o : Val} (h : DIn w X d es (.slice (some ⟨g, 0, none⟩) es.length cap) tb T) (hi : es[i]? = some (some (k, v))) (lv' : Int) (e2 : lv' = (liveL (absE es) : Int) + (o.lives - v.lives)) :
    DIn ((((w.setCell ⟨d, 3, none⟩ (.int .i64 lv')).setCell ⟨g, i * 7 + 3, none⟩ (.int .i64 o.k)).setCell ⟨g, i * 7 + 4, none⟩ (.int .i64 o.n)).setCell ⟨g, i * 7 + 5, none⟩ (.string o.s)) X d (es.set i (some (k, o))) (.slice (some ⟨g, 0, none⟩) es.length cap) tb T := by
  have hD := getD_of_get hi
  have hlt := (List.getElem?_eq_some_iff.1 hi).1
  have hdg : d ≠ g := blk_ne_row h.mem.hd h.mem.rows rfl (by decide)
  have hdt : d ≠ tb := h.mem.hd.ne h.mem.tab (by decide)
  have hgt : tb ≠ g := blk_ne_row h.mem.tab h.mem.rows rfl (by decide)
  have hlen := flatE_len es
  have q1 : ((es.length : Int) - (absE es).length) = ((es.set i (some (k, o))).length : Int) - (absE (es.set i (some (k, o)))).length := by rw [List.length_set, len_set hD]
  have q2 : lv' = (liveL (absE (es.set i (some (k, o)))) : Int) := by rw [e2, live_set hD]
  refine ⟨⟨?_, ?_, ?_⟩, h.tab.over (fun k' v' e => by cases e; exact ⟨v, hD⟩), uniq_set h.uniq hlt (fun k' v' e => by cases e; exact ⟨v, hD⟩), ?_, h.ownD, h.ownT, h.ownE, fun b hb => by simpa using h.lt b hb⟩
  · rw [← q1, ← q2]
    exact (((h.mem.hd.setSame 3 _).setOther hdg _).setOther hdg _).setOther hdg _
  · rw [← flatE_set hi, List.length_set]
    have r := ownsRow_of (w' := w.setCell ⟨d, 3, none⟩ (.int .i64 lv')) h.mem.rows (fun g' hg => by cases hg; exact Below.heap_setCell _ _ _ _ (Ne.symm hdg))
    exact row_set (row_set (row_set r (by omega) _) (by simp; omega) _) (by simp; omega) _
  · exact (((h.mem.tab.setOther (Ne.symm hdt) _).setOther hgt _).setOther hgt _).setOther hgt _
  · intro j k' v' hj
    rw [getD_set_ent hlt] at hj
    by_cases e : j = i
    · rw [if_pos e] at hj; cases hj; exact h.canon i k v hD
    · rw [if_neg e] at hj; exact h.canon j k' v' hj
theorem DMem.setLive {es : List Ent} {ev : Value} {tb : Nat} {T : List Nat} {dr lv : Int} (h : DMem w d ev tb T es dr lv) (lv' : Int) : DMem (w.setCell ⟨d, 3, none⟩ (.int .i64 lv')) d ev tb T es dr lv' :=
  ⟨h.hd.setSame 3 _, ownsRow_of h.rows (fun g hg => Below.heap_setCell _ _ _ _ (fun e => blk_ne_row h.hd h.rows hg (by decide) e.symm)), h.tab.setOther (Ne.symm (h.hd.ne h.tab (by decide))) _⟩
theorem DIn.added {es : List Ent} {ev ev' : Value} {tb : Nat} {T : List Nat} {k v : Val} {w1 : World} (h : DIn w X d es ev tb T) (hab : ∀ i w', es.getD i none ≠ some (k, w')) (hc : Canon k) (hv : v.k ≠ 0) (hf : 4 * (es.length + 1) ≤ 3 * T.length)
    (hrow : w1.ownsRow 0 190 7 ev' (es.length + 1) (flatE (es ++ [some (k, v)]))) (hC : Chg (fun b => ev.ownBlock = some b) w w1) (hat : ∀ g, ev'.ownBlock = some g → ev.ownBlock = some g ∨ w.heap.size ≤ g) (lv' : Int) (e2 : lv' = (liveL (absE es) : Int) + 1) (n' : Nat) (e1 : n' = es.length + 1) :
    DIn (((w1.setCell ⟨d, 0, none⟩ ev').setCell ⟨tb, (findM T es k).1, none⟩ (.int .i64 (n' : Nat))).setCell ⟨d, 3, none⟩ (.int .i64 lv')) (fun b => X b ∨ ev'.ownBlock = some b) d (es ++ [some (k, v)]) ev' tb (T.set (findM T es k).1 (es.length + 1)) := by
  subst e1
  have hdt : d ≠ tb := h.mem.hd.ne h.mem.tab (by decide)
  have hd1 : Blk w1 d 185 _ := h.mem.hd.of (hC.block d h.mem.hd.lt (fun hg => blk_ne_row h.mem.hd h.mem.rows hg (by decide) rfl))
  have ht1 : Blk w1 tb 3 _ := h.mem.tab.of (hC.block tb h.mem.tab.lt (fun hg => blk_ne_row h.mem.tab h.mem.rows hg (by decide) rfl))
  have eabs : absE (es ++ [some (k, v)]) = absE es ++ [(k, v)] := by rw [absE_append]; rfl
  have q1 : ((es.length : Int) - (absE es).length) = ((es ++ [some (k, v)]).length : Int) - (absE (es ++ [some (k, v)])).length := by rw [eabs]; simp; omega
  have q2 : lv' = (liveL (absE (es ++ [some (k, v)])) : Int) := by
    rw [e2, eabs]
    unfold liveL
    rw [List.countP_append]
    simp [hv]
  have hM : DMem (w1.setCell ⟨d, 0, none⟩ ev') d ev' tb T (es ++ [some (k, v)]) (((es ++ [some (k, v)]).length : Int) - (absE (es ++ [some (k, v)])).length) (liveL (absE es)) := by
    refine ⟨?_, ?_, ?_⟩
    · rw [← q1]
      exact hd1.setSame 0 ev'
    · rw [List.length_append, List.length_singleton]
      exact ownsRow_of hrow (fun g hg => Below.heap_setCell _ _ _ _ (fun e => blk_ne_row hd1 hrow hg (by decide) e.symm))
    · exact ht1.setOther (Ne.symm hdt) _
  have hM1 := hM.setTab (findM T es k).1 (es.length + 1)
  have hM2 := hM1.setLive lv'
  rw [q2] at hM2
  rw [q2]
  refine ⟨hM2, h.tab.put hab v hf, uniq_snoc h.uniq hab, ?_, .inl h.ownD, .inl h.ownT, fun g hg => .inr hg, fun b hb => ?_⟩
  · intro j k' v' hj
    rw [getD_snoc] at hj
    by_cases e : j = es.length
    · rw [if_pos e] at hj; cases hj; exact hc
    · rw [if_neg e] at hj; exact h.canon j k' v' hj
  · rcases hb with hb | hb
    · simpa using Nat.lt_of_lt_of_le (h.lt b hb) hC.size
    · simpa using (hrow.lt b hb).2
end
end Go.Proofs.Ytmjfmfelbmbniaa

/- Layer 13: Set. -/
namespace Go.Proofs.Ytmjfmfelbmbniaa
open Go.RowKit Go.Maps HK ShM
set_option linter.unusedVariables false
set_option linter.unusedSimpArgs false
section
variable {w w' : World} {X : Nat → Prop} {d N : Nat} {L : Pairs}
set_option maxHeartbeats 8000000 in
set_option maxRecDepth 20000 in
theorem dset_calls (h : DAt w X d L N) (hN : N < 131072) (x v : Val) (hx : x.s.size ≤ maxLen) : Calls Try.prog 44 #[.pointer (some ⟨d, 0, none⟩), x.v, v.v] w fun e w' => e = .returned (.tuple #[.bool (setF L x v), .int .i64 (keyE x)]) ∧ ∃ X', DAt w' X' d (setL L x v) (N + 1) ∧ (∀ b, X' b → X b ∨ w.heap.size ≤ b) ∧ Chg X w w' := by
  have HD := Lib.hid h
  have HKY := Lib.hid (fun (W : World) => key_calls x W)
  have HO := Lib.hid (fun (W : World) => own_calls v W)
  have HB0 : Hid (Below w.heap.size w ((w.alloc (.cells #[.int .i64 x.k, .int .i64 x.n, .string x.s] 57)).alloc (.cells #[.int .i64 v.k, .int .i64 v.n, .string v.s] 57))) := Lib.hid (by (repeat (first | exact Below.refl _ _ | (refine Below.alloc ?_ (by simp <;> omega) _))))
  have HV0 : Hid (Blk ((w.alloc (.cells #[.int .i64 x.k, .int .i64 x.n, .string x.s] 57)).alloc (.cells #[.int .i64 v.k, .int .i64 v.n, .string v.s] 57)) (w.heap.size + 1) 57 [.int .i64 v.k, .int .i64 v.n, .string v.s]) := Lib.hid (by simpa using Blk.new (w.alloc (.cells #[.int .i64 x.k, .int .i64 x.n, .string x.s] 57)) [.int .i64 v.k, .int .i64 v.n, .string v.s] 57)
  cases hbad : x.bad with
  | true =>
    have hF : setF L x v = false := by unfold setF; rw [hbad]; rfl
    have hL : setL L x v = L := by unfold setL; rw [hbad]; rfl
    have hE : keyE x = 15 := by unfold keyE; rw [hbad]; rfl
    rw [hF, hL, hE]
    rw [hE] at HKY
    clear hF hL hE hbad h
    generalize keyV x = k at *
    obtain ⟨k1, k2, k3⟩ := k
    obtain ⟨x1, x2, x3⟩ := x
    obtain ⟨v1, v2, v3⟩ := v
    go_enter Try.func44, Try.ntmps44
    go_wp2_with (go_at_call 43; (with_reducible refine (HKY.out _).mono ?_); rintro e w1 ⟨rfl, hb⟩; have HB1 := Lib.hid (HB0.out.trans (hb.mono HB0.out.size)); clear hb; have HB1' : Hid (Below w.heap.size w (w1.alloc (.cells #[.int .i64 k1, .int .i64 k2, .string k3] 57))) := Lib.hid (HB1.out.alloc HB1.out.size _))
    go_ret2
    exact ⟨rfl, X, (HD.out.below HB1'.out).mono (by omega), fun b hb => .inl hb, Chg.ofBelow HB1'.out⟩
  | false =>
    have hE : keyE x = 0 := by unfold keyE; rw [hbad]; rfl
    have hkk := keyV_key x hbad
    have hcan := canon_key x hbad hx
    rw [hE] at HKY ⊢
    obtain ⟨es, ev, tb, T, h, hL, hNe, ho⟩ := ent_get h (keyV x)
    rw [hkk.1, hkk.2] at ho
    have HE := Lib.hid (fun (W : World) (h : DIn W X d es ev tb T) => entry_calls h (keyV x) hcan.2.2)
    have HI := Lib.hid h
    have HL := Lib.hid hL
    have HNE := Lib.hid hNe
    have HCAN := Lib.hid hcan
    have hsl : setL L x v = match getA L (keyV x) with
      | some _ => setA L (keyV x) v.own
      | none => if v.own.k = 0 then L else L ++ [(keyV x, v.own)] := by unfold setL; rw [hbad]; rfl
    have hsf : setF L x v = ((getA L (keyV x)).isNone && !decide (v.own.k = 0)) := by unfold setF; rw [hbad]; rfl
    have hlive0 : (0 : Int) ≤ liveL (absE es) ∧ (liveL (absE es) : Int) ≤ 131072 := ⟨by omega, by have h1 : liveL (absE es) ≤ (absE es).length := List.countP_le_length; have h2 := absE_len es; omega⟩
    clear hE hkk hcan hL hNe hbad
    rcases ho with ⟨h1, h2, i, v0, h3, h4, h5, h6, h7⟩ | ⟨h1, h2, h3, h8⟩
    · rw [h5] at HE
      rw [h7] at hsl hsf
      rw [hsl, hsf]
      obtain ⟨g, cap, hev, _⟩ := h.mem.cell_ent h4
      subst hev
      have hEP : entP (.slice (some ⟨g, 0, none⟩) es.length cap) (i : Int) = .pointer (some ⟨g, i * 7, none⟩) := by unfold entP; rw [if_neg (by omega), Int.toNat_natCast]
      rw [hEP] at HE
      have H4 := Lib.hid h4
      clear h h1 h2 h3 h4 h5 h6 h7 hEP hsl hsf hx HD
      generalize keyV x = k at *
      generalize v.own = o at *
      obtain ⟨k1, k2, k3⟩ := k
      obtain ⟨o1, o2, o3⟩ := o
      obtain ⟨x1, x2, x3⟩ := x
      obtain ⟨v1, v2, v3⟩ := v
      go_enter Try.func44, Try.ntmps44
      go_upto_region 7 with (first
        | (go_at_call 43; (with_reducible refine (HKY.out _).mono ?_); rintro e w1 ⟨rfl, hb⟩; have HB1 := Lib.hid (HB0.out.trans (hb.mono HB0.out.size)); have HV1 := Lib.hid (HV0.out.of (hb.block _ HV0.out.lt)); clear hb; have HB1' : Hid (Below w.heap.size w (w1.alloc (.cells #[.int .i64 k1, .int .i64 k2, .string k3] 57))) := Lib.hid (HB1.out.alloc HB1.out.size _); have HK1 := Lib.hid (Blk.new w1 [.int .i64 k1, .int .i64 k2, .string k3] 57); have HV1' := Lib.hid (HV1.out.alloc (.cells #[.int .i64 k1, .int .i64 k2, .string k3] 57)); have y0 := HV1'.out.cell 0 _ rfl; have y1 := HV1'.out.cell 1 _ rfl; have y2 := HV1'.out.cell 2 _ rfl)
        | (go_at_call 59; (with_reducible refine (HO.out _).mono ?_); rintro e w2 ⟨rfl, hb⟩; have HB2 := Lib.hid (HB1'.out.trans (hb.mono HB1'.out.size)); have HK2 := Lib.hid (HK1.out.of (hb.block _ HK1.out.lt)); have HV2 := Lib.hid (HV1'.out.of (hb.block _ HV1'.out.lt)); clear hb; have z0 := HV2.out.cell 0 _ rfl; have z1 := HV2.out.cell 1 _ rfl; have z2 := HV2.out.cell 2 _ rfl; have f0 := HV2.out.frozen 0; have f1 := HV2.out.frozen 1; have f2 := HV2.out.frozen 2))
      have hbv : w1.heap.size ≠ w.heap.size + 1 := by have := HV1.out.lt; omega
      have HVW := Lib.hid (((HV2.out.setSame 0 (.int .i64 o1)).setSame 1 (.int .i64 o2)).setSame 2 (.string o3))
      have HKW := Lib.hid (((HK2.out.setOther (a := ⟨w.heap.size + 1, 0, none⟩) hbv (.int .i64 o1)).setOther (a := ⟨w.heap.size + 1, 1, none⟩) hbv (.int .i64 o2)).setOther (a := ⟨w.heap.size + 1, 2, none⟩) hbv (.string o3))
      have HBW : Hid (Below w.heap.size w (((w2.setCell ⟨w.heap.size + 1, 0, none⟩ (.int .i64 o1)).setCell ⟨w.heap.size + 1, 1, none⟩ (.int .i64 o2)).setCell ⟨w.heap.size + 1, 2, none⟩ (.string o3))) := Lib.hid (((HB2.out.setCell (by simp) _).setCell (by simp) _).setCell (by simp) _)
      generalize ((w2.setCell ⟨w.heap.size + 1, 0, none⟩ (.int .i64 o1)).setCell ⟨w.heap.size + 1, 1, none⟩ (.int .i64 o2)).setCell ⟨w.heap.size + 1, 2, none⟩ (.string o3) = W at *
      have hbl : w1.heap.size < W.heap.size := HKW.out.lt
      have hvl : w.heap.size + 1 < W.heap.size := HVW.out.lt
      have hbw : w.heap.size ≤ w1.heap.size := HB1.out.size
      generalize w1.heap.size = bk at *
      generalize hbb : w.heap.size + 1 = bv at *
      have HBB := Lib.hid hbb
      have k0' := HKW.out.cell 0 _ rfl
      have k1' := HKW.out.cell 1 _ rfl
      have k2' := HKW.out.cell 2 _ rfl
      clear z0 z1 z2 f0 f1 f2 y0 y1 y2 HB2 HK2 HV2 HV1' HK1 HB1' HV1 HB1 hbb
      have hIW := HI.out.below HBW.out
      have HIW := Lib.hid hIW
      have HLO := Lib.hid (fun (W : World) => lives_calls ⟨o1, o2, o3⟩ W)
      have HLV := Lib.hid (fun (W : World) => lives_calls v0 W)
      go_upto_region 9 with (go_at_call 108; (with_reducible refine (HE.out _ HIW.out).mono ?_); rintro e w3 ⟨rfl, hb⟩; have HB3 := Lib.hid hb; clear hb)
      have HI3 := Lib.hid (HIW.out.below HB3.out)
      have HVW3 := Lib.hid (HVW.out.of (HB3.out.block _ HVW.out.lt))
      obtain ⟨lv, hlv⟩ : ∃ lv : Int, (liveL (absE es) : Int) = lv := ⟨_, rfl⟩
      rw [hlv] at hlive0
      have HLVE := Lib.hid hlv
      clear hlv hIW
      have q3 : ∀ W, Below w3.heap.size w3 W → W.cell? ⟨d, 3, none⟩ = some (.int .i64 lv) := fun W hW => by rw [← HLVE.out]; exact (HI3.out.below hW).mem.hd.cell 3 _ rfl
      have qe : ∀ W, Below w3.heap.size w3 W → W.cell? ⟨g, i * 7 + 3, none⟩ = some (.int .i64 v0.k) ∧ W.cell? ⟨g, i * 7 + 4, none⟩ = some (.int .i64 v0.n) ∧ W.cell? ⟨g, i * 7 + 5, none⟩ = some (.string v0.s) := fun W hW => by
        obtain ⟨g', cap', he, _, _, hc⟩ := (HI3.out.below hW).mem.cell_ent H4.out
        cases he
        exact ⟨hc 3 _ (by decide) rfl, hc 4 _ (by decide) rfl, hc 5 _ (by decide) rfl⟩
      have u3 := fun W hW => (qe W hW).1
      have u4 := fun W hW => (qe W hW).2.1
      have u5 := fun W hW => (qe W hW).2.2
      have p0 : ∀ W, Below w3.heap.size w3 W → W.cell? ⟨bv, 0, none⟩ = some (.int .i64 o1) := fun W hW => (HVW3.out.of (hW.block _ HVW3.out.lt)).cell 0 _ rfl
      have p1 : ∀ W, Below w3.heap.size w3 W → W.cell? ⟨bv, 1, none⟩ = some (.int .i64 o2) := fun W hW => (HVW3.out.of (hW.block _ HVW3.out.lt)).cell 1 _ rfl
      have p2 : ∀ W, Below w3.heap.size w3 W → W.cell? ⟨bv, 2, none⟩ = some (.string o3) := fun W hW => (HVW3.out.of (hW.block _ HVW3.out.lt)).cell 2 _ rfl
      clear qe
      have hB0 : Below w3.heap.size w3 ({ w3 with drawn := w3.drawn + 1 } : World) := ⟨rfl, rfl, rfl, Nat.le_refl _, fun _ _ => rfl⟩
      have HCZ := Lib.hid (HBW.out.trans (HB3.out.mono HBW.out.size))
      obtain ⟨v01, v02, v03⟩ := v0
      refine RG.region_F (Below w3.heap.size w3) 15 (by kernel_rfl) ?_
      have hS0 := hB0
      generalize ({ w3 with drawn := w3.drawn + 1 } : World) = w4 at hS0 hB0 ⊢
      refine RG.takeF 0 (oi := ⟨some 29, _, _, _, _, _⟩) (v := ?_) rfl (by kernel_rfl) (by kernel_rfl) (by kernel_rfl) (by kernel_rfl) (fun _ _ _ h => h) (Or.inl ⟨by rfl, ?hy0⟩) hS0 ?rest0
      case hy0 => (intro W hW; (try dsimp only at hW); go_simp; try with_reducible rfl)
      simp only [Act.put, List.setIfInBounds_toArray, List.set_cons_zero, List.set_cons_succ]
      refine RG.takeF 1 (oi := ⟨some 30, _, _, _, _, _⟩) (v := ?_) rfl (by kernel_rfl) (by kernel_rfl) (by kernel_rfl) (by kernel_rfl) (fun _ _ _ h => h) (Or.inl ⟨by rfl, ?hy1⟩) hS0 ?rest1
      case hy1 => (intro W hW; (try dsimp only at hW); go_simp; try with_reducible rfl)
      simp only [Act.put, List.setIfInBounds_toArray, List.set_cons_zero, List.set_cons_succ]
      refine RG.takeF 2 (oi := ⟨some 31, _, _, _, _, _⟩) (v := ?_) rfl (by kernel_rfl) (by kernel_rfl) (by kernel_rfl) (by kernel_rfl) (fun _ _ _ h => h) (Or.inl ⟨by rfl, ?hy2⟩) hS0 ?rest2
      case hy2 => (intro W hW; (try dsimp only at hW); go_simp; try with_reducible rfl)
      simp only [Act.put, List.setIfInBounds_toArray, List.set_cons_zero, List.set_cons_succ]
      refine RG.takeF 3 (oi := ⟨some 32, _, _, _, _, _⟩) (v := ?_) rfl (by kernel_rfl) (by kernel_rfl) (by kernel_rfl) (by kernel_rfl) (fun _ _ _ h => h) (Or.inl ⟨by rfl, ?hy3⟩) hS0 ?rest3
      case hy3 => (intro W hW; (try dsimp only at hW); go_simp; try with_reducible rfl)
      simp only [Act.put, List.setIfInBounds_toArray, List.set_cons_zero, List.set_cons_succ]
      refine RG.takeF 4 (oi := ⟨some 33, _, _, _, _, _⟩) (v := ?_) rfl (by kernel_rfl) (by kernel_rfl) (by kernel_rfl) (by kernel_rfl) (fun _ _ _ h => h) (Or.inl ⟨by rfl, ?hy4⟩) hS0 ?rest4
      case hy4 => (intro W hW; (try dsimp only at hW); go_simp; try with_reducible rfl)
      simp only [Act.put, List.setIfInBounds_toArray, List.set_cons_zero, List.set_cons_succ]
      refine RG.takeF 6 (oi := ⟨some 35, _, _, _, _, _⟩) (v := ?_) rfl (by kernel_rfl) (by kernel_rfl) (by kernel_rfl) (by kernel_rfl) (fun _ _ _ h => h) (Or.inl ⟨by rfl, ?hy6⟩) hS0 ?rest6
      case hy6 => (intro W hW; (try dsimp only at hW); go_simp; try with_reducible rfl)
      simp only [Act.put, List.setIfInBounds_toArray, List.set_cons_zero, List.set_cons_succ]
      refine RG.takeF 7 (oi := ⟨some 36, _, _, _, _, _⟩) (v := ?_) rfl (by kernel_rfl) (by kernel_rfl) (by kernel_rfl) (by kernel_rfl) (fun _ _ _ h => h) (Or.inl ⟨by rfl, ?hy7⟩) hS0 ?rest7
      case hy7 => (intro W hW; (try dsimp only at hW); go_simp; try with_reducible rfl)
      simp only [Act.put, List.setIfInBounds_toArray, List.set_cons_zero, List.set_cons_succ]
      refine RG.takeF 8 (oi := ⟨some 37, _, _, _, _, _⟩) (v := ?_) rfl (by kernel_rfl) (by kernel_rfl) (by kernel_rfl) (by kernel_rfl) (fun _ _ _ h => h) (Or.inl ⟨by rfl, ?hy8⟩) hS0 ?rest8
      case hy8 => (intro W hW; (try dsimp only at hW); go_simp; try with_reducible rfl)
      simp only [Act.put, List.setIfInBounds_toArray, List.set_cons_zero, List.set_cons_succ]
      refine RG.takeF 9 (oi := ⟨some 38, _, _, _, _, _⟩) (v := ?_) rfl (by kernel_rfl) (by kernel_rfl) (by kernel_rfl) (by kernel_rfl) (fun _ _ _ h => h) (Or.inl ⟨by rfl, ?hy9⟩) hS0 ?rest9
      case hy9 => (intro W hW; (try dsimp only at hW); go_simp; try with_reducible rfl)
      simp only [Act.put, List.setIfInBounds_toArray, List.set_cons_zero, List.set_cons_succ]
      refine RG.oneF 5 (by kernel_rfl) (by decide) ?_
      refine RG.wpOp_plain rfl rfl fun K hK => ?_
      go_simp
      with_reducible refine (HLO.out _).mono ?_
      rintro e w5 ⟨rfl, hb⟩
      have hB5 : Below w3.heap.size w3 w5 := hB0.trans (hb.mono hB0.size)
      refine hK _ _ ⟨hB5, ?_⟩
      clear hK K hb
      try simp only [Act.put, List.setIfInBounds_toArray, List.set_cons_zero, List.set_cons_succ]
      refine RG.oneF 10 (by kernel_rfl) (by decide) ?_
      refine RG.wpOp_plain rfl rfl fun K hK => ?_
      go_simp
      with_reducible refine (HLV.out _).mono ?_
      rintro e w6 ⟨rfl, hb⟩
      have hB6 : Below w3.heap.size w3 w6 := hB5.trans (hb.mono hB5.size)
      refine hK _ _ ⟨hB6, ?_⟩
      clear hK K hb
      try simp only [Act.put, List.setIfInBounds_toArray, List.set_cons_zero, List.set_cons_succ]
      have hl1 := lives_01 ⟨v01, v02, v03⟩
      have hl2 := lives_01 ⟨o1, o2, o3⟩
      obtain ⟨lx, hlx⟩ : ∃ lx, Val.lives ⟨v01, v02, v03⟩ = lx := ⟨_, rfl⟩
      obtain ⟨ly, hly⟩ : ∃ ly, Val.lives ⟨o1, o2, o3⟩ = ly := ⟨_, rfl⟩
      have HLX := Lib.hid hlx
      have HLY := Lib.hid hly
      rw [hlx] at hl1 ⊢
      rw [hly] at hl2 ⊢
      clear hlx hly
      refine RG.oneF 11 (by kernel_rfl) (by decide) ?_
      refine RG.wpOp_plain rfl rfl fun K hK => ?_
      go_simp
      refine hK _ _ ⟨hB6, ?_⟩
      clear hK K
      try simp only [Act.put, List.setIfInBounds_toArray, List.set_cons_zero, List.set_cons_succ]
      refine RG.oneF 12 (by kernel_rfl) (by decide) ?_
      refine RG.wpOp_plain rfl rfl fun K hK => ?_
      go_simp
      refine hK _ _ ⟨hB6, ?_⟩
      clear hK K
      try simp only [Act.put, List.setIfInBounds_toArray, List.set_cons_zero, List.set_cons_succ]
      refine RG.oneF 13 (by kernel_rfl) (by decide) ?_
      refine RG.wpOp_plain rfl rfl fun K hK => ?_
      go_simp
      refine hK _ _ ⟨hB6, ?_⟩
      clear hK K
      try simp only [Act.put, List.setIfInBounds_toArray, List.set_cons_zero, List.set_cons_succ]
      refine RG.oneF 14 (by kernel_rfl) (by decide) ?_
      refine RG.wpOp_plain rfl rfl fun K hK => ?_
      go_simp
      refine hK _ _ ⟨hB6, ?_⟩
      clear hK K
      try simp only [Act.put, List.setIfInBounds_toArray, List.set_cons_zero, List.set_cons_succ]
      have hI6 := HI3.out.below hB6
      have HI6 := Lib.hid hI6
      have HB6 := Lib.hid hB6
      have x3' := hI6.mem.hd.cell 3 _ rfl
      have f3 := hI6.mem.hd.frozen 3
      refine RG.lastF (by kernel_rfl) (by kernel_rfl) ?_
      refine RG.wpOp_plain rfl rfl fun K hK => ?_
      go_simp
      refine hK _ _ ?_
      clear hK K
      try simp only [Act.put, List.setIfInBounds_toArray, List.set_cons_zero, List.set_cons_succ]
      obtain ⟨g', cap', he, _, _, hcl⟩ := hI6.mem.cell_ent H4.out
      cases he
      have hdg : d ≠ g := blk_ne_row hI6.mem.hd hI6.mem.rows rfl (by decide)
      have hv6 := HVW3.out.of (HB6.out.block _ HVW3.out.lt)
      have hbd : bv ≠ d := by
        have h1 := HI.out.mem.hd.lt
        have h2 := HBB.out
        omega
      have hbg : bv ≠ g := by
        have h1 := (HI.out.mem.rows.lt g rfl).2
        have h2 := HBB.out
        omega
      have z0 := hv6.cell 0 _ rfl
      have z1 := hv6.cell 1 _ rfl
      have z2 := hv6.cell 2 _ rfl
      have y3 := hcl 3 _ (by decide) rfl
      have y4 := hcl 4 _ (by decide) rfl
      have y5 := hcl 5 _ (by decide) rfl
      have r3 := row_frozen hI6.mem.rows (i * 7 + 3)
      have r4 := row_frozen hI6.mem.rows (i * 7 + 4)
      have r5 := row_frozen hI6.mem.rows (i * 7 + 5)
      clear hI6 hv6 hcl hB6
      go_wp2
      go_ret2
      have HCF := Lib.hid (HCZ.out.trans (HB6.out.mono HCZ.out.size))
      have hg : X g := HI6.out.ownE g rfl
      have hdX : X d := HI6.out.ownD
      refine ⟨rfl, X, ⟨es.set i (some (⟨k1, k2, k3⟩, ⟨o1, o2, o3⟩)), _, tb, T, HI6.out.setv (o := ⟨o1, o2, o3⟩) H4.out _ (by rw [HLVE.out, HLX.out, HLY.out]), ?_, ?_⟩, fun b hb => .inl hb, ?_⟩
      · rw [← HL.out]
        exact absE_set HI6.out.uniq (getD_of_get H4.out)
      · rw [List.length_set]; have := HNE.out; omega
      · exact (((((Chg.ofBelow HCF.out).setCell (fun _ => hdX) _).setCell (fun _ => hg) _).setCell (fun _ => hg) _).setCell (fun _ => hg) _)
    · have hno : getA L (keyV x) = none := by
        rcases h8 with h8 | h8
        · cases h8
        · exact h8
      rw [h3] at HE
      rw [hno] at hsl hsf
      rw [hsl, hsf]
      have hab : ∀ i w', es.getD i none ≠ some (keyV x, w') := fun i w' hi => by
        have := getA_hit h.uniq hi
        rw [HL.out, hno] at this; cases this
      have HAB := Lib.hid hab
      rw [show entP ev (-1) = .pointer none from rfl] at HE
      obtain ⟨ea, ec, hev⟩ := ownsRow_form h.mem.rows
      subst hev
      clear h h1 h2 h3 h8 hno hab hsl hsf hx
      generalize keyV x = k at *
      generalize v.own = o at *
      obtain ⟨k1, k2, k3⟩ := k
      obtain ⟨o1, o2, o3⟩ := o
      obtain ⟨x1, x2, x3⟩ := x
      obtain ⟨v1, v2, v3⟩ := v
      have HLO := Lib.hid (fun (W : World) => lives_calls ⟨o1, o2, o3⟩ W)
      by_cases ho0 : o1 = 0
      · subst ho0
        rw [show Val.lives ⟨0, o2, o3⟩ = 0 from rfl] at HLO
        go_enter Try.func44, Try.ntmps44
        go_upto_region 7 with (first
          | (go_at_call 43; (with_reducible refine (HKY.out _).mono ?_); rintro e w1 ⟨rfl, hb⟩; have HB1 := Lib.hid (HB0.out.trans (hb.mono HB0.out.size)); have HV1 := Lib.hid (HV0.out.of (hb.block _ HV0.out.lt)); clear hb; have HB1' : Hid (Below w.heap.size w (w1.alloc (.cells #[.int .i64 k1, .int .i64 k2, .string k3] 57))) := Lib.hid (HB1.out.alloc HB1.out.size _); have HK1 := Lib.hid (Blk.new w1 [.int .i64 k1, .int .i64 k2, .string k3] 57); have HV1' := Lib.hid (HV1.out.alloc (.cells #[.int .i64 k1, .int .i64 k2, .string k3] 57)); have y0 := HV1'.out.cell 0 _ rfl; have y1 := HV1'.out.cell 1 _ rfl; have y2 := HV1'.out.cell 2 _ rfl)
          | (go_at_call 59; (with_reducible refine (HO.out _).mono ?_); rintro e w2 ⟨rfl, hb⟩; have HB2 := Lib.hid (HB1'.out.trans (hb.mono HB1'.out.size)); have HK2 := Lib.hid (HK1.out.of (hb.block _ HK1.out.lt)); have HV2 := Lib.hid (HV1'.out.of (hb.block _ HV1'.out.lt)); clear hb; have z0 := HV2.out.cell 0 _ rfl; have z1 := HV2.out.cell 1 _ rfl; have z2 := HV2.out.cell 2 _ rfl; have f0 := HV2.out.frozen 0; have f1 := HV2.out.frozen 1; have f2 := HV2.out.frozen 2))
        have hbv : w1.heap.size ≠ w.heap.size + 1 := by have := HV1.out.lt; omega
        have HVW := Lib.hid (((HV2.out.setSame 0 (.int .i64 0)).setSame 1 (.int .i64 o2)).setSame 2 (.string o3))
        have HKW := Lib.hid (((HK2.out.setOther (a := ⟨w.heap.size + 1, 0, none⟩) hbv (.int .i64 0)).setOther (a := ⟨w.heap.size + 1, 1, none⟩) hbv (.int .i64 o2)).setOther (a := ⟨w.heap.size + 1, 2, none⟩) hbv (.string o3))
        have HBW : Hid (Below w.heap.size w (((w2.setCell ⟨w.heap.size + 1, 0, none⟩ (.int .i64 0)).setCell ⟨w.heap.size + 1, 1, none⟩ (.int .i64 o2)).setCell ⟨w.heap.size + 1, 2, none⟩ (.string o3))) := Lib.hid (((HB2.out.setCell (by simp) _).setCell (by simp) _).setCell (by simp) _)
        generalize ((w2.setCell ⟨w.heap.size + 1, 0, none⟩ (.int .i64 0)).setCell ⟨w.heap.size + 1, 1, none⟩ (.int .i64 o2)).setCell ⟨w.heap.size + 1, 2, none⟩ (.string o3) = W at *
        have hbl : w1.heap.size < W.heap.size := HKW.out.lt
        have hvl : w.heap.size + 1 < W.heap.size := HVW.out.lt
        have hbw : w.heap.size ≤ w1.heap.size := HB1.out.size
        generalize w1.heap.size = bk at *
        generalize hbb : w.heap.size + 1 = bv at *
        have HBB := Lib.hid hbb
        have k0' := HKW.out.cell 0 _ rfl
        have k1' := HKW.out.cell 1 _ rfl
        have k2' := HKW.out.cell 2 _ rfl
        clear z0 z1 z2 f0 f1 f2 y0 y1 y2 HB2 HK2 HV2 HV1' HK1 HB1' HV1 HB1 hbb
        have HIW := Lib.hid (HI.out.below HBW.out)
        go_wp2_with (first
          | (go_at_call 108; (with_reducible refine (HE.out _ HIW.out).mono ?_); rintro e w3 ⟨rfl, hb⟩; have HB3 := Lib.hid (HBW.out.trans (hb.mono HBW.out.size)); have hv3 := HVW.out.of (hb.block _ HVW.out.lt); have z0 := hv3.cell 0 _ rfl; have z1 := hv3.cell 1 _ rfl; have z2 := hv3.cell 2 _ rfl; clear hb hv3)
          | (go_at_call 109; (with_reducible refine (HLO.out _).mono ?_); rintro e w4 ⟨rfl, hb⟩; have HB4 := Lib.hid (HB3.out.trans (hb.mono HB3.out.size)); clear hb))
        go_ret2
        exact ⟨rfl, X, (HD.out.below HB4.out).mono (by omega), fun b hb => .inl hb, Chg.ofBelow HB4.out⟩
      · rw [show Val.lives ⟨o1, o2, o3⟩ = 1 from if_neg ho0] at HLO
        rw [if_neg (show ¬ (⟨o1, o2, o3⟩ : Val).k = 0 from ho0), show decide ((⟨o1, o2, o3⟩ : Val).k = 0) = false from decide_eq_false ho0]
        have hT1 := HI.out.tab.top
        have hE1 := HI.out.tab.fill
        obtain ⟨m, hm⟩ : ∃ m, m = es.length := ⟨_, rfl⟩
        obtain ⟨n, hn⟩ : ∃ n, n = T.length := ⟨_, rfl⟩
        have EM := Lib.hid hm
        have EN := Lib.hid hn
        rw [← hm, ← hn] at hE1
        rw [← hn] at hT1
        clear hm hn
        by_cases hfl : 4 * (m + 1) ≤ 3 * n
        · have hfl' : ¬ (3 * (n : Int) < 4 * ((m : Int) + 1)) := by omega
          go_enter Try.func44, Try.ntmps44
          go_upto_region 7 with (first
            | (go_at_call 43; (with_reducible refine (HKY.out _).mono ?_); rintro e w1 ⟨rfl, hb⟩; have HB1 := Lib.hid (HB0.out.trans (hb.mono HB0.out.size)); have HV1 := Lib.hid (HV0.out.of (hb.block _ HV0.out.lt)); clear hb; have HB1' : Hid (Below w.heap.size w (w1.alloc (.cells #[.int .i64 k1, .int .i64 k2, .string k3] 57))) := Lib.hid (HB1.out.alloc HB1.out.size _); have HK1 := Lib.hid (Blk.new w1 [.int .i64 k1, .int .i64 k2, .string k3] 57); have HV1' := Lib.hid (HV1.out.alloc (.cells #[.int .i64 k1, .int .i64 k2, .string k3] 57)); have y0 := HV1'.out.cell 0 _ rfl; have y1 := HV1'.out.cell 1 _ rfl; have y2 := HV1'.out.cell 2 _ rfl)
            | (go_at_call 59; (with_reducible refine (HO.out _).mono ?_); rintro e w2 ⟨rfl, hb⟩; have HB2 := Lib.hid (HB1'.out.trans (hb.mono HB1'.out.size)); have HK2 := Lib.hid (HK1.out.of (hb.block _ HK1.out.lt)); have HV2 := Lib.hid (HV1'.out.of (hb.block _ HV1'.out.lt)); clear hb; have z0 := HV2.out.cell 0 _ rfl; have z1 := HV2.out.cell 1 _ rfl; have z2 := HV2.out.cell 2 _ rfl; have f0 := HV2.out.frozen 0; have f1 := HV2.out.frozen 1; have f2 := HV2.out.frozen 2))
          have hbv : w1.heap.size ≠ w.heap.size + 1 := by have := HV1.out.lt; omega
          have HVW := Lib.hid (((HV2.out.setSame 0 (.int .i64 o1)).setSame 1 (.int .i64 o2)).setSame 2 (.string o3))
          have HKW := Lib.hid (((HK2.out.setOther (a := ⟨w.heap.size + 1, 0, none⟩) hbv (.int .i64 o1)).setOther (a := ⟨w.heap.size + 1, 1, none⟩) hbv (.int .i64 o2)).setOther (a := ⟨w.heap.size + 1, 2, none⟩) hbv (.string o3))
          have HBW : Hid (Below w.heap.size w (((w2.setCell ⟨w.heap.size + 1, 0, none⟩ (.int .i64 o1)).setCell ⟨w.heap.size + 1, 1, none⟩ (.int .i64 o2)).setCell ⟨w.heap.size + 1, 2, none⟩ (.string o3))) := Lib.hid (((HB2.out.setCell (by simp) _).setCell (by simp) _).setCell (by simp) _)
          generalize ((w2.setCell ⟨w.heap.size + 1, 0, none⟩ (.int .i64 o1)).setCell ⟨w.heap.size + 1, 1, none⟩ (.int .i64 o2)).setCell ⟨w.heap.size + 1, 2, none⟩ (.string o3) = W at *
          have hbl : w1.heap.size < W.heap.size := HKW.out.lt
          have hvl : w.heap.size + 1 < W.heap.size := HVW.out.lt
          have hbw : w.heap.size ≤ w1.heap.size := HB1.out.size
          generalize w1.heap.size = bk at *
          generalize hbb : w.heap.size + 1 = bv at *
          have HBB := Lib.hid hbb
          have k0' := HKW.out.cell 0 _ rfl
          have k1' := HKW.out.cell 1 _ rfl
          have k2' := HKW.out.cell 2 _ rfl
          clear z0 z1 z2 f0 f1 f2 y0 y1 y2 HB2 HK2 HV2 HV1' HK1 HB1' HV1 HB1 hbb
          have HIW := Lib.hid (HI.out.below HBW.out)
          go_upto_region 14 with (first
            | (go_at_call 108; (with_reducible refine (HE.out _ HIW.out).mono ?_); rintro e w3 ⟨rfl, hb⟩; have HB3 := Lib.hid (HBW.out.trans (hb.mono HBW.out.size)); have HI3 := Lib.hid (HIW.out.below hb); have HK3 := Lib.hid (HKW.out.of (hb.block _ HKW.out.lt)); have HV3 := Lib.hid (HVW.out.of (hb.block _ HVW.out.lt)); have z0 := HV3.out.cell 0 _ rfl; have z1 := HV3.out.cell 1 _ rfl; have z2 := HV3.out.cell 2 _ rfl; clear hb)
            | (go_at_call 109; (with_reducible refine (HLO.out _).mono ?_); rintro e w4 ⟨rfl, hb⟩; have HB4 := Lib.hid (HB3.out.trans (hb.mono HB3.out.size)); have HI4 := Lib.hid (HI3.out.below hb); have HK4 := Lib.hid (HK3.out.of (hb.block _ HK3.out.lt)); have HV4 := Lib.hid (HV3.out.of (hb.block _ HV3.out.lt)); clear hb; have c0 := HI4.out.mem.hd.cell 0 _ rfl; have c1 := HI4.out.mem.hd.cell 1 _ rfl; rw [← EM.out] at c0; rw [← EN.out] at c1))
          go_quiet (fail)
          have hdr : Below w4.heap.size w4 (w4.drewN nq) := Below.drewN (Below.refl _ _) _
          have HIA := Lib.hid (HI4.out.below hdr)
          have HKA := Lib.hid (HK4.out.of (hdr.block _ HK4.out.lt))
          have HVA := Lib.hid (HV4.out.of (hdr.block _ HV4.out.lt))
          have HCA := Lib.hid (Chg.ofBelow (B := X) (HB4.out.trans (hdr.mono HB4.out.size)))
          have HX2 : Hid (∀ b, X b → X b ∨ w.heap.size ≤ b) := Lib.hid (fun b hb => .inl hb)
          have HF2 : Hid (4 * (es.length + 1) ≤ 3 * T.length) := Lib.hid (by rw [← EM.out, ← EN.out]; exact hfl)
          have HLL := HL
          have hdw : d < w.heap.size := HI.out.mem.hd.lt
          have HAB2 := HAB
          have HNE2 := HNE
          clear c0 c1 hfl hE1 hT1 EM EN z0 z1 z2 HI4 HI3 HK4 HK3 HV4 HV3 HB4 HB3
          generalize w4.drewN nq = wa at *
          have hd0 := HIA.out.mem.hd.lt
          have HFI := Lib.hid (fun (W : World) (h : DIn W X d es (.slice ea es.length ec) tb T) => h.find ⟨k1, k2, k3⟩ HCAN.out.2.2)
          have e0 := HKA.out.cell 0 _ rfl
          have e1 := HKA.out.cell 1 _ rfl
          have e2 := HKA.out.cell 2 _ rfl
          obtain ⟨at', hat⟩ : ∃ at', at' = (findM T es ⟨k1, k2, k3⟩).1 := ⟨_, rfl⟩
          have HAT := Lib.hid hat
          rw [← hat] at HFI
          clear hat
          generalize (findM T es ⟨k1, k2, k3⟩).2 = pl at *
          go_upto_region 17 with (go_at_call 111; (with_reducible refine (HFI.out _ HIA.out).mono ?_); rintro e wb ⟨rfl, hb⟩; have HIB := Lib.hid (HIA.out.below hb); have HKB := Lib.hid (HKA.out.of (hb.block _ HKA.out.lt)); have HVB := Lib.hid (HVA.out.of (hb.block _ HVA.out.lt)); have HCB := Lib.hid (HCA.out.trans (Chg.ofBelow hb) (fun b hb h => h)); clear hb)
          have hB0 : Below wb.heap.size wb ({ wb with drawn := wb.drawn + 1 } : World) := ⟨rfl, rfl, rfl, Nat.le_refl _, fun _ _ => rfl⟩
          have HIC := Lib.hid (HIB.out.below hB0)
          have HKC := Lib.hid (HKB.out.of (hB0.block _ HKB.out.lt))
          have HVC := Lib.hid (HVB.out.of (hB0.block _ HVB.out.lt))
          have HCC := Lib.hid (HCB.out.trans (Chg.ofBelow (B := X) hB0) (fun b hb h => h))
          refine RG.region_F (Chg (fun b => (Value.slice ea es.length ec).ownBlock = some b) ({ wb with drawn := wb.drawn + 1 } : World)) 12 (by kernel_rfl) ?_
          clear hB0
          generalize ({ wb with drawn := wb.drawn + 1 } : World) = wc at *
          have q0 : ∀ W, Chg (fun b => (Value.slice ea es.length ec).ownBlock = some b) wc W → W.cell? ⟨d, 0, none⟩ = some (.slice ea es.length ec) := fun W hW => (HIC.out.mem.hd.of (hW.block _ HIC.out.mem.hd.lt (fun hg => blk_ne_row HIC.out.mem.hd HIC.out.mem.rows hg (by decide) rfl))).cell 0 _ rfl
          have qk : ∀ W, Chg (fun b => (Value.slice ea es.length ec).ownBlock = some b) wc W → Blk W bk 57 [.int .i64 k1, .int .i64 k2, .string k3] := fun W hW => HKC.out.of (hW.block _ HKC.out.lt (fun hg => blk_ne_row HKC.out HIC.out.mem.rows hg (by decide) rfl))
          have qv : ∀ W, Chg (fun b => (Value.slice ea es.length ec).ownBlock = some b) wc W → Blk W bv 57 [.int .i64 o1, .int .i64 o2, .string o3] := fun W hW => HVC.out.of (hW.block _ HVC.out.lt (fun hg => blk_ne_row HVC.out HIC.out.mem.rows hg (by decide) rfl))
          have q1 : ∀ W, Chg (fun b => (Value.slice ea es.length ec).ownBlock = some b) wc W → W.cell? ⟨bk, 0, none⟩ = some (.int .i64 k1) := fun W hW => (qk W hW).cell 0 _ rfl
          have q2 : ∀ W, Chg (fun b => (Value.slice ea es.length ec).ownBlock = some b) wc W → W.cell? ⟨bk, 1, none⟩ = some (.int .i64 k2) := fun W hW => (qk W hW).cell 1 _ rfl
          have q3 : ∀ W, Chg (fun b => (Value.slice ea es.length ec).ownBlock = some b) wc W → W.cell? ⟨bk, 2, none⟩ = some (.string k3) := fun W hW => (qk W hW).cell 2 _ rfl
          have q4 : ∀ W, Chg (fun b => (Value.slice ea es.length ec).ownBlock = some b) wc W → W.cell? ⟨bv, 0, none⟩ = some (.int .i64 o1) := fun W hW => (qv W hW).cell 0 _ rfl
          have q5 : ∀ W, Chg (fun b => (Value.slice ea es.length ec).ownBlock = some b) wc W → W.cell? ⟨bv, 1, none⟩ = some (.int .i64 o2) := fun W hW => (qv W hW).cell 1 _ rfl
          have q6 : ∀ W, Chg (fun b => (Value.slice ea es.length ec).ownBlock = some b) wc W → W.cell? ⟨bv, 2, none⟩ = some (.string o3) := fun W hW => (qv W hW).cell 2 _ rfl
          have hS0 : Chg (fun b => (Value.slice ea es.length ec).ownBlock = some b) wc wc := Chg.refl _ _
          clear qk qv
          refine RG.takeF 0 (oi := ⟨some 73, _, _, _, _, _⟩) (v := ?_) rfl (by kernel_rfl) (by kernel_rfl) (by kernel_rfl) (by kernel_rfl) (fun _ _ _ h => h) (Or.inl ⟨by rfl, ?hyd0⟩) hS0 ?restd0
          case hyd0 => (intro W hW; (try dsimp only at hW); go_simp; try with_reducible rfl)
          simp only [Act.put, List.setIfInBounds_toArray, List.set_cons_zero, List.set_cons_succ]
          refine RG.takeF 1 (oi := ⟨some 74, _, _, _, _, _⟩) (v := ?_) rfl (by kernel_rfl) (by kernel_rfl) (by kernel_rfl) (by kernel_rfl) (fun _ _ _ h => h) (Or.inl ⟨by rfl, ?hyd1⟩) hS0 ?restd1
          case hyd1 => (intro W hW; (try dsimp only at hW); go_simp; try with_reducible rfl)
          simp only [Act.put, List.setIfInBounds_toArray, List.set_cons_zero, List.set_cons_succ]
          refine RG.takeF 2 (oi := ⟨some 75, _, _, _, _, _⟩) (v := ?_) rfl (by kernel_rfl) (by kernel_rfl) (by kernel_rfl) (by kernel_rfl) (fun _ _ _ h => h) (Or.inl ⟨by rfl, ?hyd2⟩) hS0 ?restd2
          case hyd2 => (intro W hW; (try dsimp only at hW); go_simp; try with_reducible rfl)
          simp only [Act.put, List.setIfInBounds_toArray, List.set_cons_zero, List.set_cons_succ]
          refine RG.takeF 3 (oi := ⟨some 76, _, _, _, _, _⟩) (v := ?_) rfl (by kernel_rfl) (by kernel_rfl) (by kernel_rfl) (by kernel_rfl) (fun _ _ _ h => h) (Or.inl ⟨by rfl, ?hyd3⟩) hS0 ?restd3
          case hyd3 => (intro W hW; (try dsimp only at hW); go_simp; try with_reducible rfl)
          simp only [Act.put, List.setIfInBounds_toArray, List.set_cons_zero, List.set_cons_succ]
          refine RG.takeF 4 (oi := ⟨some 77, _, _, _, _, _⟩) (v := ?_) rfl (by kernel_rfl) (by kernel_rfl) (by kernel_rfl) (by kernel_rfl) (fun _ _ _ h => h) (Or.inl ⟨by rfl, ?hyd4⟩) hS0 ?restd4
          case hyd4 => (intro W hW; (try dsimp only at hW); go_simp; try with_reducible rfl)
          simp only [Act.put, List.setIfInBounds_toArray, List.set_cons_zero, List.set_cons_succ]
          refine RG.takeF 5 (oi := ⟨some 78, _, _, _, _, _⟩) (v := ?_) rfl (by kernel_rfl) (by kernel_rfl) (by kernel_rfl) (by kernel_rfl) (fun _ _ _ h => h) (Or.inl ⟨by rfl, ?hyd5⟩) hS0 ?restd5
          case hyd5 => (intro W hW; (try dsimp only at hW); go_simp; try with_reducible rfl)
          simp only [Act.put, List.setIfInBounds_toArray, List.set_cons_zero, List.set_cons_succ]
          refine RG.takeF 6 (oi := ⟨some 79, _, _, _, _, _⟩) (v := ?_) rfl (by kernel_rfl) (by kernel_rfl) (by kernel_rfl) (by kernel_rfl) (fun _ _ _ h => h) (Or.inl ⟨by rfl, ?hyd6⟩) hS0 ?restd6
          case hyd6 => (intro W hW; (try dsimp only at hW); go_simp; try with_reducible rfl)
          simp only [Act.put, List.setIfInBounds_toArray, List.set_cons_zero, List.set_cons_succ]
          refine RG.takeF 7 (oi := ⟨some 80, _, _, _, _, _⟩) (v := ?_) rfl (by kernel_rfl) (by kernel_rfl) (by kernel_rfl) (by kernel_rfl) (fun _ _ _ h => h) (Or.inl ⟨by rfl, ?hyd7⟩) hS0 ?restd7
          case hyd7 => (intro W hW; (try dsimp only at hW); go_simp; try with_reducible rfl)
          simp only [Act.put, List.setIfInBounds_toArray, List.set_cons_zero, List.set_cons_succ]
          have hrow := (HIC.out.mem.rows).alloc (.cells #[.int .i64 k1, .int .i64 k2, .string k3, .int .i64 o1, .int .i64 o2, .string o3, .bool true] 190)
          have hnb : Blk (wc.alloc (.cells #[.int .i64 k1, .int .i64 k2, .string k3, .int .i64 o1, .int .i64 o2, .string o3, .bool true] 190)) wc.heap.size 190 (Ent.cells (some (⟨k1, k2, k3⟩, ⟨o1, o2, o3⟩))) := Blk.new wc (Ent.cells (some (⟨k1, k2, k3⟩, ⟨o1, o2, o3⟩))) 190
          have hS1 : Chg (fun b => (Value.slice ea es.length ec).ownBlock = some b) wc (wc.alloc (.cells #[.int .i64 k1, .int .i64 k2, .string k3, .int .i64 o1, .int .i64 o2, .string o3, .bool true] 190)) := hS0.alloc _
          refine RG.oneF 8 (by kernel_rfl) (by decide) ?_
          refine RG.wpOp_plain rfl rfl fun K hK => ?_
          go_simp
          refine hK _ _ ⟨hS1, ?_⟩
          clear hK K
          try simp only [Act.put, List.setIfInBounds_toArray, List.set_cons_zero, List.set_cons_succ]
          obtain ⟨v', wd, r, o, gr, hat'⟩ := run_append_ent _ 0 _ _ hnb _ _ hrow (by have h1 := HIC.out.tab.fill; have h2 := HIC.out.tab.top; omega) (Nat.zero_le _)
          refine RG.oneF 9 (by kernel_rfl) (by decide) ?_
          refine RG.wpOp_plain rfl rfl fun K hK => ?_
          refine RG.wp_append_run _ _ 183 183 rfl rfl rfl r ?_
          have hS2 := hS1.grown gr (fun q hq _ => hq)
          refine hK _ _ ⟨hS2, ?_⟩
          clear hK K
          try simp only [Act.put, List.setIfInBounds_toArray, List.set_cons_zero, List.set_cons_succ]
          obtain ⟨na, nc, rfl⟩ := ownsRow_form o
          refine RG.oneF 10 (by kernel_rfl) (by decide) ?_
          refine RG.wpOp_plain rfl rfl fun K hK => ?_
          go_simp
          refine hK _ _ ⟨hS2, ?_⟩
          clear hK K
          try simp only [Act.put, List.setIfInBounds_toArray, List.set_cons_zero, List.set_cons_succ]
          refine RG.oneF 11 (by kernel_rfl) (by decide) ?_
          refine RG.wpOp_plain rfl rfl fun K hK => ?_
          go_simp
          refine hK _ _ ⟨hS2, ?_⟩
          clear hK K
          try simp only [Act.put, List.setIfInBounds_toArray, List.set_cons_zero, List.set_cons_succ]
          have HC2 := Lib.hid hS2
          have HO2 := Lib.hid o
          have HAT2 : Hid (∀ g, (Value.slice na (es.length + 1) nc).ownBlock = some g → (Value.slice ea es.length ec).ownBlock = some g ∨ wc.heap.size ≤ g) := Lib.hid (fun g hg => by
            rcases hat' with h | h
            · exact .inl (h.symm.trans hg)
            · refine .inr ?_
              have h1 := Option.some.inj (hg.symm.trans h)
              rw [h1]; simp)
          clear r gr hat' o hrow hnb hS1
          have hdn : ¬ ((Value.slice ea es.length ec).ownBlock = some d) := fun hg => blk_ne_row HIC.out.mem.hd HIC.out.mem.rows hg (by decide) rfl
          have htn : ¬ ((Value.slice ea es.length ec).ownBlock = some tb) := fun hg => blk_ne_row HIC.out.mem.tab HIC.out.mem.rows hg (by decide) rfl
          have hdd := HIC.out.mem.hd.of (hS2.block _ HIC.out.mem.hd.lt hdn)
          have htd := HIC.out.mem.tab.of (hS2.block _ HIC.out.mem.tab.lt htn)
          have x0 := hdd.cell 0 _ rfl
          have f0 := hdd.frozen 0
          refine RG.lastF (by kernel_rfl) (by kernel_rfl) ?_
          refine RG.wpOp_plain rfl rfl fun K hK => ?_
          go_simp
          refine hK _ _ ?_
          clear hK K
          try simp only [Act.put, List.setIfInBounds_toArray, List.set_cons_zero, List.set_cons_succ]
          clear q0 q1 q2 q3 q4 q5 q6 x0 f0 hS0 hS2
          go_upto_region 18 with (fail)
          have hw9 : ({ (wd.setCell ⟨d, 0, none⟩ (.slice na (es.length + 1) nc)) with drawn := (wd.setCell ⟨d, 0, none⟩ (.slice na (es.length + 1) nc)).drawn + 1 } : World) = ({ wd with drawn := wd.drawn + 1 } : World).setCell ⟨d, 0, none⟩ (.slice na (es.length + 1) nc) := rfl
          refine RG.region_F (Below (wd.setCell ⟨d, 0, none⟩ (.slice na (es.length + 1) nc)).heap.size (wd.setCell ⟨d, 0, none⟩ (.slice na (es.length + 1) nc))) 11 (by kernel_rfl) ?_
          rw [hw9]
          have hSd : Below (wd.setCell ⟨d, 0, none⟩ (.slice na (es.length + 1) nc)).heap.size (wd.setCell ⟨d, 0, none⟩ (.slice na (es.length + 1) nc)) (({ wd with drawn := wd.drawn + 1 } : World).setCell ⟨d, 0, none⟩ (.slice na (es.length + 1) nc)) := by
            rw [← hw9]; exact ⟨rfl, rfl, rfl, Nat.le_refl _, fun _ _ => rfl⟩
          have hdr : Below wd.heap.size wd ({ wd with drawn := wd.drawn + 1 } : World) := ⟨rfl, rfl, rfl, Nat.le_refl _, fun _ _ => rfl⟩
          have HC3 := Lib.hid (HC2.out.trans (Chg.ofBelow (B := fun b => (Value.slice ea es.length ec).ownBlock = some b) hdr) (fun b hb h => h))
          have HO3 := Lib.hid (ownsRow_of (w' := ({ wd with drawn := wd.drawn + 1 } : World)) HO2.out (fun g hg => rfl))
          have hd9 := hdd.setSame 0 (.slice na (es.length + 1) nc)
          have hdt : d ≠ tb := hdd.ne htd (by decide)
          have ht9 := htd.setOther (a := ⟨d, 0, none⟩) (Ne.symm hdt) (.slice na (es.length + 1) nc)
          have r0 : ∀ W, Below (wd.setCell ⟨d, 0, none⟩ (.slice na (es.length + 1) nc)).heap.size (wd.setCell ⟨d, 0, none⟩ (.slice na (es.length + 1) nc)) W → W.cell? ⟨d, 0, none⟩ = some (.slice na (es.length + 1) nc) := fun W hW => (hd9.of (hW.block _ hd9.lt)).cell 0 _ rfl
          have r1 : ∀ W, Below (wd.setCell ⟨d, 0, none⟩ (.slice na (es.length + 1) nc)).heap.size (wd.setCell ⟨d, 0, none⟩ (.slice na (es.length + 1) nc)) W → W.cell? ⟨d, 1, none⟩ = some (.slice (some ⟨tb, 0, none⟩) T.length T.length) := fun W hW => (hd9.of (hW.block _ hd9.lt)).cell 1 _ rfl
          have hatl : at' < T.length := by
            obtain ⟨j, h1, _⟩ := HIC.out.tab.absent HAB2.out
            rw [HAT.out, h1]
            exact Nat.mod_lt _ (by have := HIC.out.tab.big; omega)
          have HATL := Lib.hid hatl
          have hd10 := hd9.of (hSd.block _ hd9.lt)
          have ht10 := ht9.of (hSd.block _ ht9.lt)
          have hbd : es.length + 1 ≤ 1048577 := by have h1 := HIC.out.tab.fill; have h2 := HIC.out.tab.top; omega
          clear hw9 hdr hd9 ht9 hdd htd
          generalize ({ wd with drawn := wd.drawn + 1 } : World) = we at *
          generalize wd.setCell ⟨d, 0, none⟩ (.slice na (es.length + 1) nc) = wx at *
          refine RG.takeF 0 (oi := ⟨some 85, _, _, _, _, _⟩) (v := ?_) rfl (by kernel_rfl) (by kernel_rfl) (by kernel_rfl) (by kernel_rfl) (fun _ _ _ h => h) (Or.inl ⟨by rfl, ?hydx0⟩) hSd ?restdx0
          case hydx0 => (intro W hW; (try dsimp only at hW); go_simp; try with_reducible rfl)
          simp only [Act.put, List.setIfInBounds_toArray, List.set_cons_zero, List.set_cons_succ]
          refine RG.takeF 1 (oi := ⟨some 86, _, _, _, _, _⟩) (v := ?_) rfl (by kernel_rfl) (by kernel_rfl) (by kernel_rfl) (by kernel_rfl) (fun _ _ _ h => h) (Or.inl ⟨by rfl, ?hydx1⟩) hSd ?restdx1
          case hydx1 => (intro W hW; (try dsimp only at hW); go_simp; try with_reducible rfl)
          simp only [Act.put, List.setIfInBounds_toArray, List.set_cons_zero, List.set_cons_succ]
          refine RG.takeF 2 (oi := ⟨some 87, _, _, _, _, _⟩) (v := ?_) rfl (by kernel_rfl) (by kernel_rfl) (by kernel_rfl) (by kernel_rfl) (fun _ _ _ h => h) (Or.inl ⟨by rfl, ?hydx2⟩) hSd ?restdx2
          case hydx2 => (intro W hW; (try dsimp only at hW); go_simp; try with_reducible rfl)
          simp only [Act.put, List.setIfInBounds_toArray, List.set_cons_zero, List.set_cons_succ]
          refine RG.takeF 3 (oi := ⟨some 88, _, _, _, _, _⟩) (v := ?_) rfl (by kernel_rfl) (by kernel_rfl) (by kernel_rfl) (by kernel_rfl) (fun _ _ _ h => h) (Or.inl ⟨by rfl, ?hydx3⟩) hSd ?restdx3
          case hydx3 => (intro W hW; (try dsimp only at hW); go_simp; try with_reducible rfl)
          simp only [Act.put, List.setIfInBounds_toArray, List.set_cons_zero, List.set_cons_succ]
          refine RG.takeF 4 (oi := ⟨some 89, _, _, _, _, _⟩) (v := ?_) rfl (by kernel_rfl) (by kernel_rfl) (by kernel_rfl) (by kernel_rfl) (fun _ _ _ h => h) (Or.inl ⟨by rfl, ?hydx4⟩) hSd ?restdx4
          case hydx4 => (intro W hW; (try dsimp only at hW); go_simp; try with_reducible rfl)
          simp only [Act.put, List.setIfInBounds_toArray, List.set_cons_zero, List.set_cons_succ]
          refine RG.takeF 5 (oi := ⟨some 90, _, _, _, _, _⟩) (v := ?_) rfl (by kernel_rfl) (by kernel_rfl) (by kernel_rfl) (by kernel_rfl) (fun _ _ _ h => h) (Or.inl ⟨by rfl, ?hydx5⟩) hSd ?restdx5
          case hydx5 => (intro W hW; (try dsimp only at hW); go_simp; try with_reducible rfl)
          simp only [Act.put, List.setIfInBounds_toArray, List.set_cons_zero, List.set_cons_succ]
          refine RG.takeF 6 (oi := ⟨some 91, _, _, _, _, _⟩) (v := ?_) rfl (by kernel_rfl) (by kernel_rfl) (by kernel_rfl) (by kernel_rfl) (fun _ _ _ h => h) (Or.inl ⟨by rfl, ?hydx6⟩) hSd ?restdx6
          case hydx6 => (intro W hW; (try dsimp only at hW); go_simp; try with_reducible rfl)
          simp only [Act.put, List.setIfInBounds_toArray, List.set_cons_zero, List.set_cons_succ]
          refine RG.takeF 7 (oi := ⟨some 92, _, _, _, _, _⟩) (v := ?_) rfl (by kernel_rfl) (by kernel_rfl) (by kernel_rfl) (by kernel_rfl) (fun _ _ _ h => h) (Or.inl ⟨by rfl, ?hydx7⟩) hSd ?restdx7
          case hydx7 => (intro W hW; (try dsimp only at hW); go_simp; try with_reducible rfl)
          simp only [Act.put, List.setIfInBounds_toArray, List.set_cons_zero, List.set_cons_succ]
          refine RG.takeF 8 (oi := ⟨some 93, _, _, _, _, _⟩) (v := ?_) rfl (by kernel_rfl) (by kernel_rfl) (by kernel_rfl) (by kernel_rfl) (fun _ _ _ h => h) (Or.inl ⟨by rfl, ?hydx8⟩) hSd ?restdx8
          case hydx8 => (intro W hW; (try dsimp only at hW); go_simp; try with_reducible rfl)
          simp only [Act.put, List.setIfInBounds_toArray, List.set_cons_zero, List.set_cons_succ]
          refine RG.takeF 9 (oi := ⟨some 94, _, _, _, _, _⟩) (v := ?_) rfl (by kernel_rfl) (by kernel_rfl) (by kernel_rfl) (by kernel_rfl) (fun _ _ _ h => h) (Or.inl ⟨by rfl, ?hydx9⟩) hSd ?restdx9
          case hydx9 => (intro W hW; (try dsimp only at hW); go_simp; try with_reducible rfl)
          simp only [Act.put, List.setIfInBounds_toArray, List.set_cons_zero, List.set_cons_succ]
          have hat0 : (0 : Int) ≤ (at' : Int) := by omega
          have hat1 : (at' : Int) < (T.length : Int) := by omega
          refine RG.oneF 10 (by kernel_rfl) (by decide) ?_
          refine RG.wpOp_plain rfl rfl fun K hK => ?_
          go_simp
          refine hK _ _ ⟨hSd, ?_⟩
          clear hK K
          try simp only [Act.put, List.setIfInBounds_toArray, List.set_cons_zero, List.set_cons_succ]
          have t0 := ht10.cell at' _ (by rw [List.getElem?_map, List.getElem?_eq_getElem hatl]; rfl)
          have tf := ht10.frozen at'
          refine RG.lastF (by kernel_rfl) (by kernel_rfl) ?_
          refine RG.wpOp_plain rfl rfl fun K hK => ?_
          go_simp
          refine hK _ _ ?_
          clear hK K
          try simp only [Act.put, List.setIfInBounds_toArray, List.set_cons_zero, List.set_cons_succ]
          have c3 := hd10.cell 3 _ rfl
          have f3 := hd10.frozen 3
          clear r0 r1 t0 tf
          go_wp2
          go_ret2
          have hfin := HIC.out.added (w1 := we) HAB2.out HCAN.out (v := ⟨o1, o2, o3⟩) ho0 HF2.out HO3.out HC3.out HAT2.out _ rfl _ rfl
          rw [← HAT.out, show (((es.length + 1 : Nat) : Int)) = (es.length : Int) + 1 by omega] at hfin
          refine ⟨rfl, fun b => X b ∨ (Value.slice na (es.length + 1) nc).ownBlock = some b, ⟨es ++ [some (⟨k1, k2, k3⟩, ⟨o1, o2, o3⟩)], _, tb, _, hfin, ?_, ?_⟩, ?_, ?_⟩
          · rw [absE_append, HLL.out]; rfl
          · rw [List.length_append, List.length_singleton]; have := HNE2.out; omega
          · intro b hb
            rcases hb with hb | hb
            · exact HX2.out b hb
            · rcases HAT2.out b hb with h | h
              · exact HX2.out b (HIC.out.ownE b h)
              · exact .inr (Nat.le_trans HCC.out.size h)
          · have hmem : ∀ b, b < w.heap.size → X b → X b := fun b h1 h2 => (HX2.out b h2).elim id (fun h => absurd h1 (by omega))
            have h1 := HCC.out.trans HC3.out (fun b h1 h2 => hmem b h1 (HIC.out.ownE b h2))
            exact ((h1.setCell (a := ⟨d, 0, none⟩) (fun h => hmem d h HIC.out.ownD) _).setCell (a := ⟨tb, at', none⟩) (fun h => hmem tb h HIC.out.ownT) _).setCell (a := ⟨d, 3, none⟩) (fun h => hmem d h HIC.out.ownD) _
        · have hfl' : (3 * (n : Int) < 4 * ((m : Int) + 1)) := by omega
          go_enter Try.func44, Try.ntmps44
          go_upto_region 7 with (first
            | (go_at_call 43; (with_reducible refine (HKY.out _).mono ?_); rintro e w1 ⟨rfl, hb⟩; have HB1 := Lib.hid (HB0.out.trans (hb.mono HB0.out.size)); have HV1 := Lib.hid (HV0.out.of (hb.block _ HV0.out.lt)); clear hb; have HB1' : Hid (Below w.heap.size w (w1.alloc (.cells #[.int .i64 k1, .int .i64 k2, .string k3] 57))) := Lib.hid (HB1.out.alloc HB1.out.size _); have HK1 := Lib.hid (Blk.new w1 [.int .i64 k1, .int .i64 k2, .string k3] 57); have HV1' := Lib.hid (HV1.out.alloc (.cells #[.int .i64 k1, .int .i64 k2, .string k3] 57)); have y0 := HV1'.out.cell 0 _ rfl; have y1 := HV1'.out.cell 1 _ rfl; have y2 := HV1'.out.cell 2 _ rfl)
            | (go_at_call 59; (with_reducible refine (HO.out _).mono ?_); rintro e w2 ⟨rfl, hb⟩; have HB2 := Lib.hid (HB1'.out.trans (hb.mono HB1'.out.size)); have HK2 := Lib.hid (HK1.out.of (hb.block _ HK1.out.lt)); have HV2 := Lib.hid (HV1'.out.of (hb.block _ HV1'.out.lt)); clear hb; have z0 := HV2.out.cell 0 _ rfl; have z1 := HV2.out.cell 1 _ rfl; have z2 := HV2.out.cell 2 _ rfl; have f0 := HV2.out.frozen 0; have f1 := HV2.out.frozen 1; have f2 := HV2.out.frozen 2))
          have hbv : w1.heap.size ≠ w.heap.size + 1 := by have := HV1.out.lt; omega
          have HVW := Lib.hid (((HV2.out.setSame 0 (.int .i64 o1)).setSame 1 (.int .i64 o2)).setSame 2 (.string o3))
          have HKW := Lib.hid (((HK2.out.setOther (a := ⟨w.heap.size + 1, 0, none⟩) hbv (.int .i64 o1)).setOther (a := ⟨w.heap.size + 1, 1, none⟩) hbv (.int .i64 o2)).setOther (a := ⟨w.heap.size + 1, 2, none⟩) hbv (.string o3))
          have HBW : Hid (Below w.heap.size w (((w2.setCell ⟨w.heap.size + 1, 0, none⟩ (.int .i64 o1)).setCell ⟨w.heap.size + 1, 1, none⟩ (.int .i64 o2)).setCell ⟨w.heap.size + 1, 2, none⟩ (.string o3))) := Lib.hid (((HB2.out.setCell (by simp) _).setCell (by simp) _).setCell (by simp) _)
          generalize ((w2.setCell ⟨w.heap.size + 1, 0, none⟩ (.int .i64 o1)).setCell ⟨w.heap.size + 1, 1, none⟩ (.int .i64 o2)).setCell ⟨w.heap.size + 1, 2, none⟩ (.string o3) = W at *
          have hbl : w1.heap.size < W.heap.size := HKW.out.lt
          have hvl : w.heap.size + 1 < W.heap.size := HVW.out.lt
          have hbw : w.heap.size ≤ w1.heap.size := HB1.out.size
          generalize w1.heap.size = bk at *
          generalize hbb : w.heap.size + 1 = bv at *
          have HBB := Lib.hid hbb
          have k0' := HKW.out.cell 0 _ rfl
          have k1' := HKW.out.cell 1 _ rfl
          have k2' := HKW.out.cell 2 _ rfl
          clear z0 z1 z2 f0 f1 f2 y0 y1 y2 HB2 HK2 HV2 HV1' HK1 HB1' HV1 HB1 hbb
          have HIW := Lib.hid (HI.out.below HBW.out)
          go_upto_region 14 with (first
            | (go_at_call 108; (with_reducible refine (HE.out _ HIW.out).mono ?_); rintro e w3 ⟨rfl, hb⟩; have HB3 := Lib.hid (HBW.out.trans (hb.mono HBW.out.size)); have HI3 := Lib.hid (HIW.out.below hb); have HK3 := Lib.hid (HKW.out.of (hb.block _ HKW.out.lt)); have HV3 := Lib.hid (HVW.out.of (hb.block _ HVW.out.lt)); have z0 := HV3.out.cell 0 _ rfl; have z1 := HV3.out.cell 1 _ rfl; have z2 := HV3.out.cell 2 _ rfl; clear hb)
            | (go_at_call 109; (with_reducible refine (HLO.out _).mono ?_); rintro e w4 ⟨rfl, hb⟩; have HB4 := Lib.hid (HB3.out.trans (hb.mono HB3.out.size)); have HI4 := Lib.hid (HI3.out.below hb); have HK4 := Lib.hid (HK3.out.of (hb.block _ HK3.out.lt)); have HV4 := Lib.hid (HV3.out.of (hb.block _ HV3.out.lt)); clear hb; have c0 := HI4.out.mem.hd.cell 0 _ rfl; have c1 := HI4.out.mem.hd.cell 1 _ rfl; rw [← EM.out] at c0; rw [← EN.out] at c1))
          go_quiet (fail)
          have hdr : Below w4.heap.size w4 (w4.drewN nq) := Below.drewN (Below.refl _ _) _
          have HIA0 := Lib.hid (HI4.out.below hdr)
          have HKA0 := Lib.hid (HK4.out.of (hdr.block _ HK4.out.lt))
          have HVA0 := Lib.hid (HV4.out.of (hdr.block _ HV4.out.lt))
          have HCA0 := Lib.hid (Chg.ofBelow (B := X) (HB4.out.trans (hdr.mono HB4.out.size)))
          have hbk : bk ≠ d := by have := HI.out.mem.hd.lt; omega
          have hbvd : bv ≠ d := by have := HI.out.mem.hd.lt; have := HBB.out; omega
          have HLAY := Lib.hid (fun (W : World) (h : DIn W X d es (.slice ea es.length ec) tb T) => dlay_calls h (by have := HNE.out; omega))
          clear c0 c1 hfl hE1 hT1 EM EN z0 z1 z2 HI4 HI3 HK4 HK3 HV4 HV3 HB4 HB3
          generalize w4.drewN nq = wz at *
          go_upto_region 16 with (go_at_call 110; (with_reducible refine (HLAY.out _ HIA0.out).mono ?_); rintro e wa ⟨rfl, X2, ev2, tb2, T2, hI2, hx2, hc2, hf2⟩; have HIAX := Lib.hid hI2; have HXX := Lib.hid hx2; have HCX := Lib.hid hc2; have HFX := Lib.hid hf2; clear hI2 hx2 hc2 hf2)
          obtain ⟨ea2, ec2, hev2⟩ := ownsRow_form HIAX.out.mem.rows
          subst hev2
          obtain ⟨es2, hes2⟩ : ∃ es2, es2 = someE (absE es) := ⟨_, rfl⟩
          have HIA : Hid (DIn wa X2 d es2 (.slice ea2 es2.length ec2) tb2 T2) := Lib.hid (by rw [hes2]; exact HIAX.out)
          have HKA := Lib.hid (HKA0.out.of (HCX.out.block _ HKA0.out.lt hbk))
          have HVA := Lib.hid (HVA0.out.of (HCX.out.block _ HVA0.out.lt hbvd))
          have HCA := Lib.hid (HCA0.out.trans HCX.out (fun b h1 h2 => by subst h2; exact HI.out.ownD))
          have HX2 : Hid (∀ b, X2 b → X b ∨ w.heap.size ≤ b) := Lib.hid (fun b hb => (HXX.out b hb).elim (fun h => .inl (by subst h; exact HI.out.ownD)) (fun h => .inr (Nat.le_trans HCA0.out.size h)))
          have habs2 : absE es2 = absE es := by rw [hes2, absE_someE]
          have hle2 : es2.length ≤ es.length := by rw [hes2, someE, List.length_map]; exact absE_len es
          have HF2 : Hid (4 * (es2.length + 1) ≤ 3 * T2.length) := Lib.hid (by rw [hes2, someE, List.length_map]; exact HFX.out)
          have HLL : Hid (absE es2 = L) := Lib.hid (habs2.trans HL.out)
          have HNE2 : Hid (es2.length ≤ N) := Lib.hid (Nat.le_trans hle2 HNE.out)
          have HAB2 : Hid (∀ i w', es2.getD i none ≠ some ((⟨k1, k2, k3⟩ : Val), w')) := Lib.hid (fun i w' hi => by
            have h1 := mem_absE.2 ⟨i, hi⟩
            rw [habs2] at h1
            obtain ⟨i', hi'⟩ := mem_absE.1 h1
            exact HAB.out i' w' hi')
          rw [← habs2] at hlive0
          have hm2 : es2.length ≤ 131072 := by have := HNE2.out; omega
          clear HIAX HXX HCX HFX HKA0 HVA0 HIA0 HLAY habs2 hle2 hdr hfl' hes2
          have hd0 := HIA.out.mem.hd.lt
          have HFI := Lib.hid (fun (W : World) (h : DIn W X2 d es2 (.slice ea2 es2.length ec2) tb2 T2) => h.find ⟨k1, k2, k3⟩ HCAN.out.2.2)
          have e0 := HKA.out.cell 0 _ rfl
          have e1 := HKA.out.cell 1 _ rfl
          have e2 := HKA.out.cell 2 _ rfl
          obtain ⟨at', hat⟩ : ∃ at', at' = (findM T2 es2 ⟨k1, k2, k3⟩).1 := ⟨_, rfl⟩
          have HAT := Lib.hid hat
          rw [← hat] at HFI
          clear hat
          generalize (findM T2 es2 ⟨k1, k2, k3⟩).2 = pl at *
          go_upto_region 17 with (go_at_call 111; (with_reducible refine (HFI.out _ HIA.out).mono ?_); rintro e wb ⟨rfl, hb⟩; have HIB := Lib.hid (HIA.out.below hb); have HKB := Lib.hid (HKA.out.of (hb.block _ HKA.out.lt)); have HVB := Lib.hid (HVA.out.of (hb.block _ HVA.out.lt)); have HCB := Lib.hid (HCA.out.trans (Chg.ofBelow hb) (fun b hb h => h)); clear hb)
          have hB0 : Below wb.heap.size wb ({ wb with drawn := wb.drawn + 1 } : World) := ⟨rfl, rfl, rfl, Nat.le_refl _, fun _ _ => rfl⟩
          have HIC := Lib.hid (HIB.out.below hB0)
          have HKC := Lib.hid (HKB.out.of (hB0.block _ HKB.out.lt))
          have HVC := Lib.hid (HVB.out.of (hB0.block _ HVB.out.lt))
          have HCC := Lib.hid (HCB.out.trans (Chg.ofBelow (B := X) hB0) (fun b hb h => h))
          refine RG.region_F (Chg (fun b => (Value.slice ea2 es2.length ec2).ownBlock = some b) ({ wb with drawn := wb.drawn + 1 } : World)) 12 (by kernel_rfl) ?_
          clear hB0
          generalize ({ wb with drawn := wb.drawn + 1 } : World) = wc at *
          have q0 : ∀ W, Chg (fun b => (Value.slice ea2 es2.length ec2).ownBlock = some b) wc W → W.cell? ⟨d, 0, none⟩ = some (.slice ea2 es2.length ec2) := fun W hW => (HIC.out.mem.hd.of (hW.block _ HIC.out.mem.hd.lt (fun hg => blk_ne_row HIC.out.mem.hd HIC.out.mem.rows hg (by decide) rfl))).cell 0 _ rfl
          have qk : ∀ W, Chg (fun b => (Value.slice ea2 es2.length ec2).ownBlock = some b) wc W → Blk W bk 57 [.int .i64 k1, .int .i64 k2, .string k3] := fun W hW => HKC.out.of (hW.block _ HKC.out.lt (fun hg => blk_ne_row HKC.out HIC.out.mem.rows hg (by decide) rfl))
          have qv : ∀ W, Chg (fun b => (Value.slice ea2 es2.length ec2).ownBlock = some b) wc W → Blk W bv 57 [.int .i64 o1, .int .i64 o2, .string o3] := fun W hW => HVC.out.of (hW.block _ HVC.out.lt (fun hg => blk_ne_row HVC.out HIC.out.mem.rows hg (by decide) rfl))
          have q1 : ∀ W, Chg (fun b => (Value.slice ea2 es2.length ec2).ownBlock = some b) wc W → W.cell? ⟨bk, 0, none⟩ = some (.int .i64 k1) := fun W hW => (qk W hW).cell 0 _ rfl
          have q2 : ∀ W, Chg (fun b => (Value.slice ea2 es2.length ec2).ownBlock = some b) wc W → W.cell? ⟨bk, 1, none⟩ = some (.int .i64 k2) := fun W hW => (qk W hW).cell 1 _ rfl
          have q3 : ∀ W, Chg (fun b => (Value.slice ea2 es2.length ec2).ownBlock = some b) wc W → W.cell? ⟨bk, 2, none⟩ = some (.string k3) := fun W hW => (qk W hW).cell 2 _ rfl
          have q4 : ∀ W, Chg (fun b => (Value.slice ea2 es2.length ec2).ownBlock = some b) wc W → W.cell? ⟨bv, 0, none⟩ = some (.int .i64 o1) := fun W hW => (qv W hW).cell 0 _ rfl
          have q5 : ∀ W, Chg (fun b => (Value.slice ea2 es2.length ec2).ownBlock = some b) wc W → W.cell? ⟨bv, 1, none⟩ = some (.int .i64 o2) := fun W hW => (qv W hW).cell 1 _ rfl
          have q6 : ∀ W, Chg (fun b => (Value.slice ea2 es2.length ec2).ownBlock = some b) wc W → W.cell? ⟨bv, 2, none⟩ = some (.string o3) := fun W hW => (qv W hW).cell 2 _ rfl
          have hS0 : Chg (fun b => (Value.slice ea2 es2.length ec2).ownBlock = some b) wc wc := Chg.refl _ _
          clear qk qv
          refine RG.takeF 0 (oi := ⟨some 73, _, _, _, _, _⟩) (v := ?_) rfl (by kernel_rfl) (by kernel_rfl) (by kernel_rfl) (by kernel_rfl) (fun _ _ _ h => h) (Or.inl ⟨by rfl, ?hye0⟩) hS0 ?reste0
          case hye0 => (intro W hW; (try dsimp only at hW); go_simp; try with_reducible rfl)
          simp only [Act.put, List.setIfInBounds_toArray, List.set_cons_zero, List.set_cons_succ]
          refine RG.takeF 1 (oi := ⟨some 74, _, _, _, _, _⟩) (v := ?_) rfl (by kernel_rfl) (by kernel_rfl) (by kernel_rfl) (by kernel_rfl) (fun _ _ _ h => h) (Or.inl ⟨by rfl, ?hye1⟩) hS0 ?reste1
          case hye1 => (intro W hW; (try dsimp only at hW); go_simp; try with_reducible rfl)
          simp only [Act.put, List.setIfInBounds_toArray, List.set_cons_zero, List.set_cons_succ]
          refine RG.takeF 2 (oi := ⟨some 75, _, _, _, _, _⟩) (v := ?_) rfl (by kernel_rfl) (by kernel_rfl) (by kernel_rfl) (by kernel_rfl) (fun _ _ _ h => h) (Or.inl ⟨by rfl, ?hye2⟩) hS0 ?reste2
          case hye2 => (intro W hW; (try dsimp only at hW); go_simp; try with_reducible rfl)
          simp only [Act.put, List.setIfInBounds_toArray, List.set_cons_zero, List.set_cons_succ]
          refine RG.takeF 3 (oi := ⟨some 76, _, _, _, _, _⟩) (v := ?_) rfl (by kernel_rfl) (by kernel_rfl) (by kernel_rfl) (by kernel_rfl) (fun _ _ _ h => h) (Or.inl ⟨by rfl, ?hye3⟩) hS0 ?reste3
          case hye3 => (intro W hW; (try dsimp only at hW); go_simp; try with_reducible rfl)
          simp only [Act.put, List.setIfInBounds_toArray, List.set_cons_zero, List.set_cons_succ]
          refine RG.takeF 4 (oi := ⟨some 77, _, _, _, _, _⟩) (v := ?_) rfl (by kernel_rfl) (by kernel_rfl) (by kernel_rfl) (by kernel_rfl) (fun _ _ _ h => h) (Or.inl ⟨by rfl, ?hye4⟩) hS0 ?reste4
          case hye4 => (intro W hW; (try dsimp only at hW); go_simp; try with_reducible rfl)
          simp only [Act.put, List.setIfInBounds_toArray, List.set_cons_zero, List.set_cons_succ]
          refine RG.takeF 5 (oi := ⟨some 78, _, _, _, _, _⟩) (v := ?_) rfl (by kernel_rfl) (by kernel_rfl) (by kernel_rfl) (by kernel_rfl) (fun _ _ _ h => h) (Or.inl ⟨by rfl, ?hye5⟩) hS0 ?reste5
          case hye5 => (intro W hW; (try dsimp only at hW); go_simp; try with_reducible rfl)
          simp only [Act.put, List.setIfInBounds_toArray, List.set_cons_zero, List.set_cons_succ]
          refine RG.takeF 6 (oi := ⟨some 79, _, _, _, _, _⟩) (v := ?_) rfl (by kernel_rfl) (by kernel_rfl) (by kernel_rfl) (by kernel_rfl) (fun _ _ _ h => h) (Or.inl ⟨by rfl, ?hye6⟩) hS0 ?reste6
          case hye6 => (intro W hW; (try dsimp only at hW); go_simp; try with_reducible rfl)
          simp only [Act.put, List.setIfInBounds_toArray, List.set_cons_zero, List.set_cons_succ]
          refine RG.takeF 7 (oi := ⟨some 80, _, _, _, _, _⟩) (v := ?_) rfl (by kernel_rfl) (by kernel_rfl) (by kernel_rfl) (by kernel_rfl) (fun _ _ _ h => h) (Or.inl ⟨by rfl, ?hye7⟩) hS0 ?reste7
          case hye7 => (intro W hW; (try dsimp only at hW); go_simp; try with_reducible rfl)
          simp only [Act.put, List.setIfInBounds_toArray, List.set_cons_zero, List.set_cons_succ]
          have hrow := (HIC.out.mem.rows).alloc (.cells #[.int .i64 k1, .int .i64 k2, .string k3, .int .i64 o1, .int .i64 o2, .string o3, .bool true] 190)
          have hnb : Blk (wc.alloc (.cells #[.int .i64 k1, .int .i64 k2, .string k3, .int .i64 o1, .int .i64 o2, .string o3, .bool true] 190)) wc.heap.size 190 (Ent.cells (some (⟨k1, k2, k3⟩, ⟨o1, o2, o3⟩))) := Blk.new wc (Ent.cells (some (⟨k1, k2, k3⟩, ⟨o1, o2, o3⟩))) 190
          have hS1 : Chg (fun b => (Value.slice ea2 es2.length ec2).ownBlock = some b) wc (wc.alloc (.cells #[.int .i64 k1, .int .i64 k2, .string k3, .int .i64 o1, .int .i64 o2, .string o3, .bool true] 190)) := hS0.alloc _
          refine RG.oneF 8 (by kernel_rfl) (by decide) ?_
          refine RG.wpOp_plain rfl rfl fun K hK => ?_
          go_simp
          refine hK _ _ ⟨hS1, ?_⟩
          clear hK K
          try simp only [Act.put, List.setIfInBounds_toArray, List.set_cons_zero, List.set_cons_succ]
          obtain ⟨v', wd, r, o, gr, hat'⟩ := run_append_ent _ 0 _ _ hnb _ _ hrow (by have h1 := HIC.out.tab.fill; have h2 := HIC.out.tab.top; omega) (Nat.zero_le _)
          refine RG.oneF 9 (by kernel_rfl) (by decide) ?_
          refine RG.wpOp_plain rfl rfl fun K hK => ?_
          refine RG.wp_append_run _ _ 183 183 rfl rfl rfl r ?_
          have hS2 := hS1.grown gr (fun q hq _ => hq)
          refine hK _ _ ⟨hS2, ?_⟩
          clear hK K
          try simp only [Act.put, List.setIfInBounds_toArray, List.set_cons_zero, List.set_cons_succ]
          obtain ⟨na, nc, rfl⟩ := ownsRow_form o
          refine RG.oneF 10 (by kernel_rfl) (by decide) ?_
          refine RG.wpOp_plain rfl rfl fun K hK => ?_
          go_simp
          refine hK _ _ ⟨hS2, ?_⟩
          clear hK K
          try simp only [Act.put, List.setIfInBounds_toArray, List.set_cons_zero, List.set_cons_succ]
          refine RG.oneF 11 (by kernel_rfl) (by decide) ?_
          refine RG.wpOp_plain rfl rfl fun K hK => ?_
          go_simp
          refine hK _ _ ⟨hS2, ?_⟩
          clear hK K
          try simp only [Act.put, List.setIfInBounds_toArray, List.set_cons_zero, List.set_cons_succ]
          have HC2 := Lib.hid hS2
          have HO2 := Lib.hid o
          have HAT2 : Hid (∀ g, (Value.slice na (es2.length + 1) nc).ownBlock = some g → (Value.slice ea2 es2.length ec2).ownBlock = some g ∨ wc.heap.size ≤ g) := Lib.hid (fun g hg => by
            rcases hat' with h | h
            · exact .inl (h.symm.trans hg)
            · refine .inr ?_
              have h1 := Option.some.inj (hg.symm.trans h)
              rw [h1]; simp)
          clear r gr hat' o hrow hnb hS1
          have hdn : ¬ ((Value.slice ea2 es2.length ec2).ownBlock = some d) := fun hg => blk_ne_row HIC.out.mem.hd HIC.out.mem.rows hg (by decide) rfl
          have htn : ¬ ((Value.slice ea2 es2.length ec2).ownBlock = some tb2) := fun hg => blk_ne_row HIC.out.mem.tab HIC.out.mem.rows hg (by decide) rfl
          have hdd := HIC.out.mem.hd.of (hS2.block _ HIC.out.mem.hd.lt hdn)
          have htd := HIC.out.mem.tab.of (hS2.block _ HIC.out.mem.tab.lt htn)
          have x0 := hdd.cell 0 _ rfl
          have f0 := hdd.frozen 0
          refine RG.lastF (by kernel_rfl) (by kernel_rfl) ?_
          refine RG.wpOp_plain rfl rfl fun K hK => ?_
          go_simp
          refine hK _ _ ?_
          clear hK K
          try simp only [Act.put, List.setIfInBounds_toArray, List.set_cons_zero, List.set_cons_succ]
          clear q0 q1 q2 q3 q4 q5 q6 x0 f0 hS0 hS2
          go_upto_region 18 with (fail)
          have hw9 : ({ (wd.setCell ⟨d, 0, none⟩ (.slice na (es2.length + 1) nc)) with drawn := (wd.setCell ⟨d, 0, none⟩ (.slice na (es2.length + 1) nc)).drawn + 1 } : World) = ({ wd with drawn := wd.drawn + 1 } : World).setCell ⟨d, 0, none⟩ (.slice na (es2.length + 1) nc) := rfl
          refine RG.region_F (Below (wd.setCell ⟨d, 0, none⟩ (.slice na (es2.length + 1) nc)).heap.size (wd.setCell ⟨d, 0, none⟩ (.slice na (es2.length + 1) nc))) 11 (by kernel_rfl) ?_
          rw [hw9]
          have hSd : Below (wd.setCell ⟨d, 0, none⟩ (.slice na (es2.length + 1) nc)).heap.size (wd.setCell ⟨d, 0, none⟩ (.slice na (es2.length + 1) nc)) (({ wd with drawn := wd.drawn + 1 } : World).setCell ⟨d, 0, none⟩ (.slice na (es2.length + 1) nc)) := by
            rw [← hw9]; exact ⟨rfl, rfl, rfl, Nat.le_refl _, fun _ _ => rfl⟩
          have hdr : Below wd.heap.size wd ({ wd with drawn := wd.drawn + 1 } : World) := ⟨rfl, rfl, rfl, Nat.le_refl _, fun _ _ => rfl⟩
          have HC3 := Lib.hid (HC2.out.trans (Chg.ofBelow (B := fun b => (Value.slice ea2 es2.length ec2).ownBlock = some b) hdr) (fun b hb h => h))
          have HO3 := Lib.hid (ownsRow_of (w' := ({ wd with drawn := wd.drawn + 1 } : World)) HO2.out (fun g hg => rfl))
          have hd9 := hdd.setSame 0 (.slice na (es2.length + 1) nc)
          have hdt : d ≠ tb2 := hdd.ne htd (by decide)
          have ht9 := htd.setOther (a := ⟨d, 0, none⟩) (Ne.symm hdt) (.slice na (es2.length + 1) nc)
          have r0 : ∀ W, Below (wd.setCell ⟨d, 0, none⟩ (.slice na (es2.length + 1) nc)).heap.size (wd.setCell ⟨d, 0, none⟩ (.slice na (es2.length + 1) nc)) W → W.cell? ⟨d, 0, none⟩ = some (.slice na (es2.length + 1) nc) := fun W hW => (hd9.of (hW.block _ hd9.lt)).cell 0 _ rfl
          have r1 : ∀ W, Below (wd.setCell ⟨d, 0, none⟩ (.slice na (es2.length + 1) nc)).heap.size (wd.setCell ⟨d, 0, none⟩ (.slice na (es2.length + 1) nc)) W → W.cell? ⟨d, 1, none⟩ = some (.slice (some ⟨tb2, 0, none⟩) T2.length T2.length) := fun W hW => (hd9.of (hW.block _ hd9.lt)).cell 1 _ rfl
          have hatl : at' < T2.length := by
            obtain ⟨j, h1, _⟩ := HIC.out.tab.absent HAB2.out
            rw [HAT.out, h1]
            exact Nat.mod_lt _ (by have := HIC.out.tab.big; omega)
          have HATL := Lib.hid hatl
          have hd10 := hd9.of (hSd.block _ hd9.lt)
          have ht10 := ht9.of (hSd.block _ ht9.lt)
          have hbd : es2.length + 1 ≤ 1048577 := by have h1 := HIC.out.tab.fill; have h2 := HIC.out.tab.top; omega
          clear hw9 hdr hd9 ht9 hdd htd
          generalize ({ wd with drawn := wd.drawn + 1 } : World) = we at *
          generalize wd.setCell ⟨d, 0, none⟩ (.slice na (es2.length + 1) nc) = wx at *
          refine RG.takeF 0 (oi := ⟨some 85, _, _, _, _, _⟩) (v := ?_) rfl (by kernel_rfl) (by kernel_rfl) (by kernel_rfl) (by kernel_rfl) (fun _ _ _ h => h) (Or.inl ⟨by rfl, ?hyex0⟩) hSd ?restex0
          case hyex0 => (intro W hW; (try dsimp only at hW); go_simp; try with_reducible rfl)
          simp only [Act.put, List.setIfInBounds_toArray, List.set_cons_zero, List.set_cons_succ]
          refine RG.takeF 1 (oi := ⟨some 86, _, _, _, _, _⟩) (v := ?_) rfl (by kernel_rfl) (by kernel_rfl) (by kernel_rfl) (by kernel_rfl) (fun _ _ _ h => h) (Or.inl ⟨by rfl, ?hyex1⟩) hSd ?restex1
          case hyex1 => (intro W hW; (try dsimp only at hW); go_simp; try with_reducible rfl)
          simp only [Act.put, List.setIfInBounds_toArray, List.set_cons_zero, List.set_cons_succ]
          refine RG.takeF 2 (oi := ⟨some 87, _, _, _, _, _⟩) (v := ?_) rfl (by kernel_rfl) (by kernel_rfl) (by kernel_rfl) (by kernel_rfl) (fun _ _ _ h => h) (Or.inl ⟨by rfl, ?hyex2⟩) hSd ?restex2
          case hyex2 => (intro W hW; (try dsimp only at hW); go_simp; try with_reducible rfl)
          simp only [Act.put, List.setIfInBounds_toArray, List.set_cons_zero, List.set_cons_succ]
          refine RG.takeF 3 (oi := ⟨some 88, _, _, _, _, _⟩) (v := ?_) rfl (by kernel_rfl) (by kernel_rfl) (by kernel_rfl) (by kernel_rfl) (fun _ _ _ h => h) (Or.inl ⟨by rfl, ?hyex3⟩) hSd ?restex3
          case hyex3 => (intro W hW; (try dsimp only at hW); go_simp; try with_reducible rfl)
          simp only [Act.put, List.setIfInBounds_toArray, List.set_cons_zero, List.set_cons_succ]
          refine RG.takeF 4 (oi := ⟨some 89, _, _, _, _, _⟩) (v := ?_) rfl (by kernel_rfl) (by kernel_rfl) (by kernel_rfl) (by kernel_rfl) (fun _ _ _ h => h) (Or.inl ⟨by rfl, ?hyex4⟩) hSd ?restex4
          case hyex4 => (intro W hW; (try dsimp only at hW); go_simp; try with_reducible rfl)
          simp only [Act.put, List.setIfInBounds_toArray, List.set_cons_zero, List.set_cons_succ]
          refine RG.takeF 5 (oi := ⟨some 90, _, _, _, _, _⟩) (v := ?_) rfl (by kernel_rfl) (by kernel_rfl) (by kernel_rfl) (by kernel_rfl) (fun _ _ _ h => h) (Or.inl ⟨by rfl, ?hyex5⟩) hSd ?restex5
          case hyex5 => (intro W hW; (try dsimp only at hW); go_simp; try with_reducible rfl)
          simp only [Act.put, List.setIfInBounds_toArray, List.set_cons_zero, List.set_cons_succ]
          refine RG.takeF 6 (oi := ⟨some 91, _, _, _, _, _⟩) (v := ?_) rfl (by kernel_rfl) (by kernel_rfl) (by kernel_rfl) (by kernel_rfl) (fun _ _ _ h => h) (Or.inl ⟨by rfl, ?hyex6⟩) hSd ?restex6
          case hyex6 => (intro W hW; (try dsimp only at hW); go_simp; try with_reducible rfl)
          simp only [Act.put, List.setIfInBounds_toArray, List.set_cons_zero, List.set_cons_succ]
          refine RG.takeF 7 (oi := ⟨some 92, _, _, _, _, _⟩) (v := ?_) rfl (by kernel_rfl) (by kernel_rfl) (by kernel_rfl) (by kernel_rfl) (fun _ _ _ h => h) (Or.inl ⟨by rfl, ?hyex7⟩) hSd ?restex7
          case hyex7 => (intro W hW; (try dsimp only at hW); go_simp; try with_reducible rfl)
          simp only [Act.put, List.setIfInBounds_toArray, List.set_cons_zero, List.set_cons_succ]
          refine RG.takeF 8 (oi := ⟨some 93, _, _, _, _, _⟩) (v := ?_) rfl (by kernel_rfl) (by kernel_rfl) (by kernel_rfl) (by kernel_rfl) (fun _ _ _ h => h) (Or.inl ⟨by rfl, ?hyex8⟩) hSd ?restex8
          case hyex8 => (intro W hW; (try dsimp only at hW); go_simp; try with_reducible rfl)
          simp only [Act.put, List.setIfInBounds_toArray, List.set_cons_zero, List.set_cons_succ]
          refine RG.takeF 9 (oi := ⟨some 94, _, _, _, _, _⟩) (v := ?_) rfl (by kernel_rfl) (by kernel_rfl) (by kernel_rfl) (by kernel_rfl) (fun _ _ _ h => h) (Or.inl ⟨by rfl, ?hyex9⟩) hSd ?restex9
          case hyex9 => (intro W hW; (try dsimp only at hW); go_simp; try with_reducible rfl)
          simp only [Act.put, List.setIfInBounds_toArray, List.set_cons_zero, List.set_cons_succ]
          have hat0 : (0 : Int) ≤ (at' : Int) := by omega
          have hat1 : (at' : Int) < (T2.length : Int) := by omega
          refine RG.oneF 10 (by kernel_rfl) (by decide) ?_
          refine RG.wpOp_plain rfl rfl fun K hK => ?_
          go_simp
          refine hK _ _ ⟨hSd, ?_⟩
          clear hK K
          try simp only [Act.put, List.setIfInBounds_toArray, List.set_cons_zero, List.set_cons_succ]
          have t0 := ht10.cell at' _ (by rw [List.getElem?_map, List.getElem?_eq_getElem hatl]; rfl)
          have tf := ht10.frozen at'
          refine RG.lastF (by kernel_rfl) (by kernel_rfl) ?_
          refine RG.wpOp_plain rfl rfl fun K hK => ?_
          go_simp
          refine hK _ _ ?_
          clear hK K
          try simp only [Act.put, List.setIfInBounds_toArray, List.set_cons_zero, List.set_cons_succ]
          have c3 := hd10.cell 3 _ rfl
          have f3 := hd10.frozen 3
          clear r0 r1 t0 tf
          go_wp2
          go_ret2
          have hfin := HIC.out.added (w1 := we) HAB2.out HCAN.out (v := ⟨o1, o2, o3⟩) ho0 HF2.out HO3.out HC3.out HAT2.out _ rfl _ rfl
          rw [← HAT.out, show (((es2.length + 1 : Nat) : Int)) = (es2.length : Int) + 1 by omega] at hfin
          refine ⟨rfl, fun b => X2 b ∨ (Value.slice na (es2.length + 1) nc).ownBlock = some b, ⟨es2 ++ [some (⟨k1, k2, k3⟩, ⟨o1, o2, o3⟩)], _, tb2, _, hfin, ?_, ?_⟩, ?_, ?_⟩
          · rw [absE_append, HLL.out]; rfl
          · rw [List.length_append, List.length_singleton]; have := HNE2.out; omega
          · intro b hb
            rcases hb with hb | hb
            · exact HX2.out b hb
            · rcases HAT2.out b hb with h | h
              · exact HX2.out b (HIC.out.ownE b h)
              · exact .inr (Nat.le_trans HCC.out.size h)
          · have hmem : ∀ b, b < w.heap.size → X2 b → X b := fun b h1 h2 => (HX2.out b h2).elim id (fun h => absurd h1 (by omega))
            have h1 := HCC.out.trans HC3.out (fun b h1 h2 => hmem b h1 (HIC.out.ownE b h2))
            exact ((h1.setCell (a := ⟨d, 0, none⟩) (fun h => hmem d h HIC.out.ownD) _).setCell (a := ⟨tb2, at', none⟩) (fun h => hmem tb2 h HIC.out.ownT) _).setCell (a := ⟨d, 3, none⟩) (fun h => hmem d h HIC.out.ownD) _

end
end Go.Proofs.Ytmjfmfelbmbniaa

/- Layer 13: Next. -/
namespace Go.Proofs.Ytmjfmfelbmbniaa
open Go.RowKit Go.Maps HK ShM
set_option linter.unusedVariables false
set_option linter.unusedSimpArgs false
def firstLive (L : Pairs) : Val × Val := (L.find? (fun x => decide (x.2.k ≠ 0))).getD (Val.nil, Val.nil)
def behind (L : Pairs) (k : Val) : Pairs := (L.dropWhile (fun x => decide (x.1 ≠ k))).drop 1
def nextM (L : Pairs) (x : Val) : (Val × Val) × Int := if x.k = 0 then (firstLive L, 0) else if hasK L x then (firstLive (behind L (keyV x)), 0) else ((Val.nil, Val.nil), 15)
theorem behind_es : ∀ {es : List Ent} {i : Nat} {k v : Val}, Uniq es → es.getD i none = some (k, v) → behind (absE es) k = absE (es.drop (i + 1))
  | [], i, k, v, _, h => by simp at h
  | none :: r, 0, k, v, _, h => by simp at h
  | none :: r, i + 1, k, v, hu, h => by
    rw [absE_none, List.drop_succ_cons]
    exact behind_es (uniq_tail hu) (by simpa using h)
  | some x :: r, 0, k, v, hu, h => by
    simp at h; subst h
    simp [behind, absE_some]
  | some x :: r, i + 1, k, v, hu, h => by
    obtain ⟨a, b⟩ := x
    have hx : a ≠ k := fun e => by subst e; exact uniq_head hu i v (by simpa using h)
    have := behind_es (uniq_tail hu) (i := i) (k := k) (v := v) (by simpa using h)
    rw [List.drop_succ_cons, ← this, absE_some]
    unfold behind
    rw [List.dropWhile_cons_of_pos (by simpa using hx)]
theorem first_skip {es : List Ent} {j : Nat} {x : Ent} (hj : es[j]? = some x) (hx : ∀ k v, x = some (k, v) → v.k = 0) : firstLive (absE (es.drop (j + 1))) = firstLive (absE (es.drop j)) := by
  obtain ⟨hlt, he⟩ := List.getElem?_eq_some_iff.1 hj
  rw [List.drop_eq_getElem_cons hlt, he]
  cases x with
  | none => rw [absE_none]
  | some y =>
    obtain ⟨k, v⟩ := y
    have := hx k v rfl
    rw [absE_some]
    simp [firstLive, this]
theorem first_hit {es : List Ent} {j : Nat} {k v : Val} (hj : es[j]? = some (some (k, v))) (hv : v.k ≠ 0) : firstLive (absE (es.drop j)) = (k, v) := by
  obtain ⟨hlt, he⟩ := List.getElem?_eq_some_iff.1 hj
  rw [List.drop_eq_getElem_cons hlt, he, absE_some]
  simp [firstLive, hv]
theorem first_end {es : List Ent} {j : Nat} (hj : es.length ≤ j) : firstLive (absE (es.drop j)) = (Val.nil, Val.nil) := by
  rw [List.drop_eq_nil_of_le hj]; rfl
/-- Results that lie in two variables of three cells and a temporary. -/
theorem results_val3 {fn : Func} {t s u : Tmp} {b c : Nat} {x y : Val} {z : Value} (hr : fn.results = #[.cell t 57, .cell s 57, .tmp u]) (tmps : Array Value) (ht : tmps.getD t undef = .pointer (some ⟨b, 0, none⟩)) (hs : tmps.getD s undef = .pointer (some ⟨c, 0, none⟩)) (hu : tmps.getD u undef = z) {w : World} (h : Blk w b 57 x.cells) (h' : Blk w c 57 y.cells) :
    (results fn tmps).run Try.prog w = .ok (.tuple #[x.v, y.v, z]) w := by
  have x0 := h.cell 0 _ rfl
  have x1 := h.cell 1 _ rfl
  have x2 := h.cell 2 _ rfl
  have y0 := h'.cell 0 _ rfl
  have y1 := h'.cell 1 _ rfl
  have y2 := h'.cell 2 _ rfl
  have ht' : tmps[t]?.getD undef = .pointer (some ⟨b, 0, none⟩) := (RG.getD_form ⟨tmps, []⟩ t).symm.trans ht
  have hs' : tmps[s]?.getD undef = .pointer (some ⟨c, 0, none⟩) := (RG.getD_form ⟨tmps, []⟩ s).symm.trans hs
  have hu' : tmps[u]?.getD undef = z := (RG.getD_form ⟨tmps, []⟩ u).symm.trans hu
  simp [results, hr, ht', hs', hu', go_sem, x0, x1, x2, y0, y1, y2]
section
variable {w w' : World} {X : Nat → Prop} {d N : Nat} {L : Pairs}
/-- What the two results' cells hold. -/
structure Two (w : World) (b : Nat) : Prop where
  h4 : Blk w b 57 Val.nil.cells
  h5 : Blk w (b + 1) 57 Val.nil.cells
theorem Two.below {b : Nat} (h : Two w b) (hb : Below w.heap.size w w') : Two w' b := ⟨h.h4.of (hb.block _ h.h4.lt), h.h5.of (hb.block _ h.h5.lt)⟩
set_option maxHeartbeats 4000000 in
set_option maxRecDepth 20000 in
theorem dnext_calls (h : DAt w X d L N) (x : Val) (hx : x.s.size ≤ maxLen) : Calls Try.prog 49 #[.pointer (some ⟨d, 0, none⟩), x.v] w fun e w' => e = .returned (.tuple #[(nextM L x).1.1.v, (nextM L x).1.2.v, .int .i64 (nextM L x).2]) ∧ Below w.heap.size w w' := by
  obtain ⟨es, ev, tb, T, h, hL, hN, ho⟩ := ent_get h x
  have HV := Lib.hid (fun (v : Val) (W : World) => lives_calls v W)
  have HI := Lib.hid h
  have HB0 : Hid (Below w.heap.size w (((w.alloc (.cells #[.int .i64 x.k, .int .i64 x.n, .string x.s] 57)).alloc (.cells #[.int .i64 0, .int .i64 0, .string ⟨#[]⟩] 57)).alloc (.cells #[.int .i64 0, .int .i64 0, .string ⟨#[]⟩] 57))) := Lib.hid (by (repeat (first | exact Below.refl _ _ | (refine Below.alloc ?_ (by simp <;> omega) _))))
  have HTW : Hid (Two (((w.alloc (.cells #[.int .i64 x.k, .int .i64 x.n, .string x.s] 57)).alloc (.cells #[.int .i64 0, .int .i64 0, .string ⟨#[]⟩] 57)).alloc (.cells #[.int .i64 0, .int .i64 0, .string ⟨#[]⟩] 57)) (w.heap.size + 1)) := Lib.hid (by
    have h1 := Blk.new (w.alloc (.cells #[.int .i64 x.k, .int .i64 x.n, .string x.s] 57)) [.int .i64 0, .int .i64 0, .string ⟨#[]⟩] 57
    have h2 := Blk.new ((w.alloc (.cells #[.int .i64 x.k, .int .i64 x.n, .string x.s] 57)).alloc (.cells #[.int .i64 0, .int .i64 0, .string ⟨#[]⟩] 57)) [.int .i64 0, .int .i64 0, .string ⟨#[]⟩] 57
    exact ⟨by simpa using h1.alloc _, by simpa using h2⟩)
  by_cases hk : x.k = 0
  · have hM : nextM L x = (firstLive L, 0) := if_pos hk
    rw [hM]
    have HL : Hid (firstLive L = firstLive (absE (es.drop 0))) := Lib.hid (by rw [List.drop_zero, hL])
    obtain ⟨x1, x2, x3⟩ := x
    have hk : x1 = 0 := hk
    subst hk
    clear hM ho
    obtain ⟨ea, ec, hev⟩ := ownsRow_form h.mem.rows
    subst hev
    have c0 := (h.below HB0.out).mem.hd.cell 0 _ rfl
    clear h
    have HC : Hid (∀ W, Below w.heap.size w W → ∀ j x, es[j]? = some x → ∃ g, ea = some ⟨g, 0, none⟩ ∧ ∀ c u, c < 7 → x.cells[c]? = some u → W.cell? ⟨g, j * 7 + c, none⟩ = some u) := Lib.hid (fun W hW j x hj => by
      obtain ⟨g, cap, he, _, _, hc⟩ := (HI.out.below hW).mem.cell_ent hj
      cases he
      exact ⟨g, rfl, hc⟩)
    obtain ⟨⟨R1, R2⟩, hR⟩ : ∃ R, firstLive L = R := ⟨_, rfl⟩
    rw [hR]
    have HL := Lib.hid (HL.out.symm.trans hR)
    clear hR
    have hecap : es.length ≤ ec ∧ ec ≤ 9223372036854775807 := by
      rcases HI.out.mem.rows.2 with ⟨he, hn⟩ | ⟨g, cap, cur, he, _, _, hc, hm, _⟩
      · simp at he; exact ⟨by omega, by omega⟩
      · cases he; exact ⟨hc, hm⟩
    obtain ⟨hec1, hec2⟩ := hecap
    obtain ⟨m, hm⟩ : ∃ m, m = es.length := ⟨_, rfl⟩
    have EM := Lib.hid hm
    rw [← hm] at c0 hec1
    clear hm
    go_enter Try.func49, Try.ntmps49
    go_wp2_with fail
    go_loopw [50] (fun i wr => ∃ j : Nat, j ≤ m ∧ i = .int .i64 j ∧ Hid (Below w.heap.size w wr ∧ Two wr (w.heap.size + 1) ∧ firstLive (absE (es.drop j)) = (R1, R2))) (fun i _ => m - (intOf i).toNat)
    case atStart => exact ⟨0, Nat.zero_le _, rfl, Lib.hid ⟨HB0.out, HTW.out, HL.out⟩⟩
    case round =>
      obtain ⟨j, hj, rfl, hre⟩ := hrel
      by_cases hlt : j < m
      · have hjl : j < es.length := by rw [← EM.out]; exact hlt
        obtain ⟨y, hy⟩ : ∃ y, es[j]? = some y := ⟨_, List.getElem?_eq_getElem hjl⟩
        obtain ⟨g, rfl, hcell⟩ := HC.out wr hre.out.1 j y hy
        have hj0 : (0 : Int) ≤ (j : Int) := by omega
        have hj1 : (j : Int) < (m : Int) := by omega
        have u0 := hcell 0
        have u1 := hcell 1
        have u2 := hcell 2
        have u3 := hcell 3
        have u4 := hcell 4
        have u5 := hcell 5
        have u6 := hcell 6
        have HY := Lib.hid hy
        clear hcell hjl hy
        cases y with
        | none =>
          have u0 := u0 _ (by decide) rfl
          have u1 := u1 _ (by decide) rfl
          have u2 := u2 _ (by decide) rfl
          have u3 := u3 _ (by decide) rfl
          have u4 := u4 _ (by decide) rfl
          have u5 := u5 _ (by decide) rfl
          have u6 := u6 _ (by decide) rfl
          rw [Nat.add_zero] at u0
          go_wp2_with fail
          go_roundw
          case rel => exact ⟨j + 1, by omega, by go_num, Lib.hid ⟨hre.out.1.alloc hre.out.1.size _, hre.out.2.1.below ((Below.refl _ _).alloc (Nat.le_refl _) _), (first_skip HY.out (fun k v e => by cases e)).trans hre.out.2.2⟩⟩
          case measure => simp [intOf]; omega
        | some kv =>
          obtain ⟨k, v⟩ := kv
          have u0 := u0 _ (by decide) rfl
          have u1 := u1 _ (by decide) rfl
          have u2 := u2 _ (by decide) rfl
          have u3 := u3 _ (by decide) rfl
          have u4 := u4 _ (by decide) rfl
          have u5 := u5 _ (by decide) rfl
          have u6 := u6 _ (by decide) rfl
          rw [Nat.add_zero] at u0
          have hb2 : Below wr.heap.size wr (wr.alloc (.cells #[.int .i64 k.k, .int .i64 k.n, .string k.s, .int .i64 v.k, .int .i64 v.n, .string v.s, .bool true] 190)) := (Below.refl _ _).alloc (Nat.le_refl _) _
          have hbx : Blk (wr.alloc (.cells #[.int .i64 k.k, .int .i64 k.n, .string k.s, .int .i64 v.k, .int .i64 v.n, .string v.s, .bool true] 190)) wr.heap.size 190 [.int .i64 k.k, .int .i64 k.n, .string k.s, .int .i64 v.k, .int .i64 v.n, .string v.s, .bool true] := Blk.new wr [.int .i64 k.k, .int .i64 k.n, .string k.s, .int .i64 v.k, .int .i64 v.n, .string v.s, .bool true] 190
          have HB2 := Lib.hid hb2
          have HBX := Lib.hid hbx
          clear hb2 hbx
          by_cases hvk : v.k = 0
          · have HVV := Lib.hid (fun (W : World) => HV.out v W)
            rw [show v.lives = 0 from if_pos hvk] at HVV
            have HS := Lib.hid ((first_skip HY.out (fun k' v' e => by cases e; exact hvk)).trans hre.out.2.2)
            clear hvk
            obtain ⟨v1, v2, v3⟩ := v
            go_wp2_with (go_at_call 109; (with_reducible refine (HVV.out _).mono ?_); rintro e w4 ⟨rfl, hb⟩; have HB4 := Lib.hid (HB2.out.trans (hb.mono HB2.out.size)); clear hb)
            go_roundw
            case rel => exact ⟨j + 1, by omega, by go_num, Lib.hid ⟨hre.out.1.trans (HB4.out.mono hre.out.1.size), hre.out.2.1.below HB4.out, HS.out⟩⟩
            case measure => simp [intOf]; omega
          · have HVV := Lib.hid (fun (W : World) => HV.out v W)
            rw [show v.lives = 1 from if_neg hvk] at HVV
            have hR := (first_hit HY.out hvk).symm.trans hre.out.2.2
            cases hR
            clear hvk
            obtain ⟨v1, v2, v3⟩ := R2
            obtain ⟨k1, k2, k3⟩ := R1
            go_upto_region 16 with (go_at_call 109; (with_reducible refine (HVV.out _).mono ?_); rintro e w4 ⟨rfl, hb⟩; have HB4 := Lib.hid (HB2.out.trans (hb.mono HB2.out.size)); have HBX4 := Lib.hid (HBX.out.of (hb.block _ HBX.out.lt)); clear hb)
            have HT := Lib.hid (hre.out.2.1.below HB4.out)
            have hne4 : w.heap.size + 1 ≠ wr.heap.size := by have := hre.out.2.1.h4.lt; omega
            have hne5 : w.heap.size + 1 + 1 ≠ wr.heap.size := by have := hre.out.2.1.h5.lt; omega
            have p0 : ∀ W, Blk W wr.heap.size 190 [.int .i64 k1, .int .i64 k2, .string k3, .int .i64 v1, .int .i64 v2, .string v3, .bool true] → W.cell? ⟨wr.heap.size, 0, none⟩ = some (.int .i64 k1) := fun W hW => hW.cell 0 _ rfl
            have p1 : ∀ W, Blk W wr.heap.size 190 [.int .i64 k1, .int .i64 k2, .string k3, .int .i64 v1, .int .i64 v2, .string v3, .bool true] → W.cell? ⟨wr.heap.size, 1, none⟩ = some (.int .i64 k2) := fun W hW => hW.cell 1 _ rfl
            have p2 : ∀ W, Blk W wr.heap.size 190 [.int .i64 k1, .int .i64 k2, .string k3, .int .i64 v1, .int .i64 v2, .string v3, .bool true] → W.cell? ⟨wr.heap.size, 2, none⟩ = some (.string k3) := fun W hW => hW.cell 2 _ rfl
            have p3 : ∀ W, Blk W wr.heap.size 190 [.int .i64 k1, .int .i64 k2, .string k3, .int .i64 v1, .int .i64 v2, .string v3, .bool true] → W.cell? ⟨wr.heap.size, 3, none⟩ = some (.int .i64 v1) := fun W hW => hW.cell 3 _ rfl
            have p4 : ∀ W, Blk W wr.heap.size 190 [.int .i64 k1, .int .i64 k2, .string k3, .int .i64 v1, .int .i64 v2, .string v3, .bool true] → W.cell? ⟨wr.heap.size, 4, none⟩ = some (.int .i64 v2) := fun W hW => hW.cell 4 _ rfl
            have p5 : ∀ W, Blk W wr.heap.size 190 [.int .i64 k1, .int .i64 k2, .string k3, .int .i64 v1, .int .i64 v2, .string v3, .bool true] → W.cell? ⟨wr.heap.size, 5, none⟩ = some (.string v3) := fun W hW => hW.cell 5 _ rfl
            have hS0 : Blk ({ w4 with drawn := w4.drawn + 1 } : World) wr.heap.size 190 [.int .i64 k1, .int .i64 k2, .string k3, .int .i64 v1, .int .i64 v2, .string v3, .bool true] := HBX4.out
            have HB5 : Hid (Below wr.heap.size wr ({ w4 with drawn := w4.drawn + 1 } : World)) := Lib.hid ⟨HB4.out.os, HB4.out.tape, HB4.out.output, HB4.out.size, HB4.out.block⟩
            have HT5 : Hid (Two ({ w4 with drawn := w4.drawn + 1 } : World) (w.heap.size + 1)) := Lib.hid ⟨HT.out.h4, HT.out.h5⟩
            refine RG.region_F (fun W => Blk W wr.heap.size 190 [.int .i64 k1, .int .i64 k2, .string k3, .int .i64 v1, .int .i64 v2, .string v3, .bool true]) 6 (by kernel_rfl) ?_
            generalize ({ w4 with drawn := w4.drawn + 1 } : World) = w5 at hS0 HB5 HT5 ⊢
            clear HB4 HBX4 HT
            refine RG.takeF 0 (oi := ⟨some 62, _, _, _, _, _⟩) (v := ?_) rfl (by kernel_rfl) (by kernel_rfl) (by kernel_rfl) (by kernel_rfl) (fun _ _ _ h => h) (Or.inl ⟨by rfl, ?hy0⟩) hS0 ?rest0
            case hy0 => (intro W hW; (try dsimp only at hW); go_simp; try with_reducible rfl)
            simp only [Act.put, List.setIfInBounds_toArray, List.set_cons_zero, List.set_cons_succ]
            refine RG.takeF 1 (oi := ⟨some 63, _, _, _, _, _⟩) (v := ?_) rfl (by kernel_rfl) (by kernel_rfl) (by kernel_rfl) (by kernel_rfl) (fun _ _ _ h => h) (Or.inl ⟨by rfl, ?hy1⟩) hS0 ?rest1
            case hy1 => (intro W hW; (try dsimp only at hW); go_simp; try with_reducible rfl)
            simp only [Act.put, List.setIfInBounds_toArray, List.set_cons_zero, List.set_cons_succ]
            refine RG.takeF 2 (oi := ⟨some 64, _, _, _, _, _⟩) (v := ?_) rfl (by kernel_rfl) (by kernel_rfl) (by kernel_rfl) (by kernel_rfl) (fun _ _ _ h => h) (Or.inl ⟨by rfl, ?hy2⟩) hS0 ?rest2
            case hy2 => (intro W hW; (try dsimp only at hW); go_simp; try with_reducible rfl)
            simp only [Act.put, List.setIfInBounds_toArray, List.set_cons_zero, List.set_cons_succ]
            refine RG.takeF 3 (oi := ⟨some 65, _, _, _, _, _⟩) (v := ?_) rfl (by kernel_rfl) (by kernel_rfl) (by kernel_rfl) (by kernel_rfl) (fun _ _ _ h => h) (Or.inl ⟨by rfl, ?hy3⟩) hS0 ?rest3
            case hy3 => (intro W hW; (try dsimp only at hW); go_simp; try with_reducible rfl)
            simp only [Act.put, List.setIfInBounds_toArray, List.set_cons_zero, List.set_cons_succ]
            have x0 := HT5.out.h4.cell 0 _ rfl
            have x1 := HT5.out.h4.cell 1 _ rfl
            have x2 := HT5.out.h4.cell 2 _ rfl
            have f0 := HT5.out.h4.frozen 0
            have f1 := HT5.out.h4.frozen 1
            have f2 := HT5.out.h4.frozen 2
            refine RG.oneF 4 (by kernel_rfl) (by decide) ?_
            refine RG.wpOp_plain rfl rfl fun K hK => ?_
            go_simp
            refine hK _ _ ⟨(((hS0.setOther (Ne.symm hne4) _).setOther (Ne.symm hne4) _).setOther (Ne.symm hne4) _), ?_⟩
            clear hK K
            try simp only [Act.put, List.setIfInBounds_toArray, List.set_cons_zero, List.set_cons_succ]
            have hne45 : w.heap.size + 1 + 1 ≠ w.heap.size + 1 := by omega
            have hh5 := ((HT5.out.h5.setOther (a := ⟨w.heap.size + 1, 0, none⟩) hne45 (.int .i64 k1)).setOther (a := ⟨w.heap.size + 1, 1, none⟩) hne45 (.int .i64 k2)).setOther (a := ⟨w.heap.size + 1, 2, none⟩) hne45 (.string k3)
            have y0 := HT5.out.h5.cell 0 _ rfl
            have y1 := HT5.out.h5.cell 1 _ rfl
            have y2 := HT5.out.h5.cell 2 _ rfl
            have g0 := HT5.out.h5.frozen 0
            have g1 := HT5.out.h5.frozen 1
            have g2 := HT5.out.h5.frozen 2
            refine RG.oneF 5 (by kernel_rfl) (by decide) ?_
            refine RG.wpOp_plain rfl rfl fun K hK => ?_
            go_simp
            refine hK _ _ ⟨((((((hS0.setOther (Ne.symm hne4) _).setOther (Ne.symm hne4) _).setOther (Ne.symm hne4) _).setOther (Ne.symm hne5) _).setOther (Ne.symm hne5) _).setOther (Ne.symm hne5) _), ?_⟩
            clear hK K
            try simp only [Act.put, List.setIfInBounds_toArray, List.set_cons_zero, List.set_cons_succ]
            refine RG.lastF (by kernel_rfl) (by kernel_rfl) ?_
            refine RG.wpOp_plain rfl rfl fun K hK => ?_
            go_simp
            refine hK _ _ ?_
            clear hK K
            try simp only [Act.put, List.setIfInBounds_toArray, List.set_cons_zero, List.set_cons_succ]
            have HBZ := Lib.hid (hre.out.1.trans (HB5.out.mono hre.out.1.size))
            go_wp2
            refine bodyPost_ret (results_val3 (x := ⟨k1, k2, k3⟩) (y := ⟨v1, v2, v3⟩) rfl _ rfl rfl rfl ((((((HT5.out.h4.setSame 0 _).setSame 1 _).setSame 2 _).setOther (Ne.symm hne45) _).setOther (Ne.symm hne45) _).setOther (Ne.symm hne45) _) (((hh5.setSame 0 _).setSame 1 _).setSame 2 _)) rfl ⟨rfl, ?_⟩
            exact (((((HBZ.out.setCell (by simp) _).setCell (by simp) _).setCell (by simp) _).setCell (by simp; omega) _).setCell (by simp; omega) _).setCell (by simp; omega) _
      · obtain rfl : j = m := by omega
        have hR := hre.out.2.2
        rw [first_end (by rw [EM.out]; exact Nat.le_refl _)] at hR
        cases hR
        have HT := Lib.hid hre.out.2.1
        have x0 := HT.out.h4.cell 0 _ rfl
        have x1 := HT.out.h4.cell 1 _ rfl
        have x2 := HT.out.h4.cell 2 _ rfl
        have f0 := HT.out.h4.frozen 0
        have f1 := HT.out.h4.frozen 1
        have f2 := HT.out.h4.frozen 2
        have y0 := HT.out.h5.cell 0 _ rfl
        have y1 := HT.out.h5.cell 1 _ rfl
        have y2 := HT.out.h5.cell 2 _ rfl
        have g0 := HT.out.h5.frozen 0
        have g1 := HT.out.h5.frozen 1
        have g2 := HT.out.h5.frozen 2
        have hne45 : w.heap.size + 1 + 1 ≠ w.heap.size + 1 := by omega
        have HBZ := Lib.hid hre.out.1
        go_wp2_with fail
        refine bodyPost_ret (results_val3 (x := Val.nil) (y := Val.nil) rfl _ rfl rfl rfl ((((((HT.out.h4.setSame 0 _).setSame 1 _).setSame 2 _).setOther (Ne.symm hne45) _).setOther (Ne.symm hne45) _).setOther (Ne.symm hne45) _) ((((((HT.out.h5.setOther hne45 _).setOther hne45 _).setOther hne45 _).setSame 0 _).setSame 1 _).setSame 2 _)) rfl ⟨rfl, ?_⟩
        exact (((((HBZ.out.setCell (by simp) _).setCell (by simp) _).setCell (by simp) _).setCell (by simp; omega) _).setCell (by simp; omega) _).setCell (by simp; omega) _
  · have hk0 : (x.k == 0) = false := by simp [hk]
    have hkn : (x.k != 0) = true := by simp [hk]
    have HKY := Lib.hid (fun (W : World) => key_calls x W)
    have HF := Lib.hid (fun (W : World) (h : DIn W X d es ev tb T) => h.find (keyV x) (keyV_size hx))
    rcases ho with ⟨h1, h2, i, v, h3, h4, h5, h6, h7⟩ | ⟨h1, h2, h3, h4⟩
    · have hM : nextM L x = (firstLive (absE (es.drop (i + 1))), 0) := by
        unfold nextM; rw [if_neg hk, if_pos h1, ← behind_es h.uniq (getD_of_get h4), hL]
      have hE : keyE x = 0 := by unfold keyE; rw [h2]; rfl
      have hF : (findM T es (keyV x)).2 = i := by rw [← h5]; unfold entI; rw [h2]; rfl
      rw [hM]
      rw [hE] at HKY
      rw [hF] at HF
      obtain ⟨⟨R1, R2⟩, hR⟩ : ∃ R, firstLive (absE (es.drop (i + 1))) = R := ⟨_, rfl⟩
      rw [hR]
      have HL := Lib.hid hR
      obtain ⟨g, cap, hev, hec1, hec2, _⟩ := h.mem.cell_ent h4
      subst hev
      have HC : Hid (∀ W, Below w.heap.size w W → ∀ j x, es[j]? = some x → ∀ c u, c < 7 → x.cells[c]? = some u → W.cell? ⟨g, j * 7 + c, none⟩ = some u) := Lib.hid (fun W hW j x hj => by
        obtain ⟨g', cap', he, _, _, hc⟩ := (HI.out.below hW).mem.cell_ent hj
        cases he
        exact hc)
      have hec2' : cap ≤ 9223372036854775807 := hec2
      obtain ⟨m, hm⟩ : ∃ m, m = es.length := ⟨_, rfl⟩
      have EM := Lib.hid hm
      rw [← hm] at hec1 h3
      generalize hkv : keyV x = k at *
      generalize (findM T es k).1 = pl at *
      clear h h1 h2 h4 h5 h6 h7 hM hE hF hR hm hec2 hkv hk
      obtain ⟨k1, k2, k3⟩ := k
      obtain ⟨x1, x2, x3⟩ := x
      go_enter Try.func49, Try.ntmps49
      go_wp2_with (first
        | (go_at_call 43; (with_reducible refine (HKY.out _).mono ?_); rintro e w1 ⟨rfl, hb⟩; have HB1 := Lib.hid (HB0.out.trans (hb.mono HB0.out.size)); have HT1 := Lib.hid (HTW.out.below hb); clear hb; have HB2 : Hid (Below w.heap.size w (w1.alloc (.cells #[.int .i64 k1, .int .i64 k2, .string k3] 57))) := Lib.hid (HB1.out.alloc HB1.out.size _); have HT2 := Lib.hid (HT1.out.below ((Below.refl w1.heap.size w1).alloc (Nat.le_refl _) (.cells #[.int .i64 k1, .int .i64 k2, .string k3] 57))))
        | (go_at_call 111; (with_reducible refine (HF.out _ (HI.out.below HB2.out)).mono ?_); rintro e w2 ⟨rfl, hb⟩; have HB3 := Lib.hid (HB2.out.trans (hb.mono HB2.out.size)); have HT3 := Lib.hid (HT2.out.below hb); have c0 := (HI.out.below HB3.out).mem.hd.cell 0 _ rfl; rw [← EM.out] at c0; clear hb))
      case inl =>
        go_loopw [50] (fun ii wr => ∃ j : Nat, i + 1 + j ≤ m ∧ ii = .int .i64 j ∧ Hid (Below w.heap.size w wr ∧ Two wr (w.heap.size + 1) ∧ firstLive (absE (es.drop (i + 1 + j))) = (R1, R2))) (fun ii _ => m - (i + 1) - (intOf ii).toNat)
        case atStart => exact ⟨0, by omega, rfl, Lib.hid ⟨HB3.out, HT3.out, by rw [Nat.add_zero]; exact HL.out⟩⟩
        case round =>
          obtain ⟨j, hj, rfl, hre⟩ := hrel
          by_cases hlt : i + 1 + j < m
          · exfalso; omega
          · obtain hjm : i + 1 + j = m := by omega
            have hj3 : ¬ (j : Int) < (m : Int) - ((i : Int) + 1) := by omega
            have hR := hre.out.2.2
            rw [first_end (by rw [← EM.out]; omega)] at hR
            cases hR
            have HT := Lib.hid hre.out.2.1
            have x0 := HT.out.h4.cell 0 _ rfl
            have x1 := HT.out.h4.cell 1 _ rfl
            have x2 := HT.out.h4.cell 2 _ rfl
            have f0 := HT.out.h4.frozen 0
            have f1 := HT.out.h4.frozen 1
            have f2 := HT.out.h4.frozen 2
            have y0 := HT.out.h5.cell 0 _ rfl
            have y1 := HT.out.h5.cell 1 _ rfl
            have y2 := HT.out.h5.cell 2 _ rfl
            have g0 := HT.out.h5.frozen 0
            have g1 := HT.out.h5.frozen 1
            have g2 := HT.out.h5.frozen 2
            have hne45 : w.heap.size + 1 + 1 ≠ w.heap.size + 1 := by omega
            have HBZ := Lib.hid hre.out.1
            go_wp2_with fail
            refine bodyPost_ret (results_val3 (x := Val.nil) (y := Val.nil) rfl _ rfl rfl rfl ((((((HT.out.h4.setSame 0 _).setSame 1 _).setSame 2 _).setOther (Ne.symm hne45) _).setOther (Ne.symm hne45) _).setOther (Ne.symm hne45) _) ((((((HT.out.h5.setOther hne45 _).setOther hne45 _).setOther hne45 _).setSame 0 _).setSame 1 _).setSame 2 _)) rfl ⟨rfl, ?_⟩
            exact (((((HBZ.out.setCell (by simp) _).setCell (by simp) _).setCell (by simp) _).setCell (by simp; omega) _).setCell (by simp; omega) _).setCell (by simp; omega) _
      case inr =>
        go_loopw [50] (fun ii wr => ∃ j : Nat, i + 1 + j ≤ m ∧ ii = .int .i64 j ∧ Hid (Below w.heap.size w wr ∧ Two wr (w.heap.size + 1) ∧ firstLive (absE (es.drop (i + 1 + j))) = (R1, R2))) (fun ii _ => m - (i + 1) - (intOf ii).toNat)
        case atStart => exact ⟨0, by omega, rfl, Lib.hid ⟨HB3.out, HT3.out, by rw [Nat.add_zero]; exact HL.out⟩⟩
        case round =>
          obtain ⟨j, hj, rfl, hre⟩ := hrel
          by_cases hlt : i + 1 + j < m
          · have hjl : i + 1 + j < es.length := by rw [← EM.out]; exact hlt
            obtain ⟨y, hy⟩ : ∃ y, es[i + 1 + j]? = some y := ⟨_, List.getElem?_eq_getElem hjl⟩
            have hcell := HC.out wr hre.out.1 (i + 1 + j) y hy
            rw [show (i + 1 + j) * 7 = (i + 1) * 7 + j * 7 by omega] at hcell
            have hj0 : (0 : Int) ≤ (j : Int) := by omega
            have hj1 : (j : Int) < (m : Int) - ((i : Int) + 1) := by omega
            have hj2 : i + 1 + j < m := hlt
            have u0 := hcell 0
            have u1 := hcell 1
            have u2 := hcell 2
            have u3 := hcell 3
            have u4 := hcell 4
            have u5 := hcell 5
            have u6 := hcell 6
            have HY := Lib.hid hy
            clear hcell hjl hy
            cases y with
            | none =>
              have u0 := u0 _ (by decide) rfl
              have u1 := u1 _ (by decide) rfl
              have u2 := u2 _ (by decide) rfl
              have u3 := u3 _ (by decide) rfl
              have u4 := u4 _ (by decide) rfl
              have u5 := u5 _ (by decide) rfl
              have u6 := u6 _ (by decide) rfl
              rw [Nat.add_zero] at u0
              go_wp2_with fail
              go_roundw
              case rel => exact ⟨j + 1, by omega, by go_num, Lib.hid ⟨hre.out.1.alloc hre.out.1.size _, hre.out.2.1.below ((Below.refl _ _).alloc (Nat.le_refl _) _), (first_skip HY.out (fun k v e => by cases e)).trans hre.out.2.2⟩⟩
              case measure => simp [intOf]; omega
            | some kv =>
              obtain ⟨k, v⟩ := kv
              have u0 := u0 _ (by decide) rfl
              have u1 := u1 _ (by decide) rfl
              have u2 := u2 _ (by decide) rfl
              have u3 := u3 _ (by decide) rfl
              have u4 := u4 _ (by decide) rfl
              have u5 := u5 _ (by decide) rfl
              have u6 := u6 _ (by decide) rfl
              rw [Nat.add_zero] at u0
              have hb2 : Below wr.heap.size wr (wr.alloc (.cells #[.int .i64 k.k, .int .i64 k.n, .string k.s, .int .i64 v.k, .int .i64 v.n, .string v.s, .bool true] 190)) := (Below.refl _ _).alloc (Nat.le_refl _) _
              have hbx : Blk (wr.alloc (.cells #[.int .i64 k.k, .int .i64 k.n, .string k.s, .int .i64 v.k, .int .i64 v.n, .string v.s, .bool true] 190)) wr.heap.size 190 [.int .i64 k.k, .int .i64 k.n, .string k.s, .int .i64 v.k, .int .i64 v.n, .string v.s, .bool true] := Blk.new wr [.int .i64 k.k, .int .i64 k.n, .string k.s, .int .i64 v.k, .int .i64 v.n, .string v.s, .bool true] 190
              have HB2 := Lib.hid hb2
              have HBX := Lib.hid hbx
              clear hb2 hbx
              by_cases hvk : v.k = 0
              · have HVV := Lib.hid (fun (W : World) => HV.out v W)
                rw [show v.lives = 0 from if_pos hvk] at HVV
                have HS := Lib.hid ((first_skip HY.out (fun k' v' e => by cases e; exact hvk)).trans hre.out.2.2)
                clear hvk
                obtain ⟨v1, v2, v3⟩ := v
                go_wp2_with (go_at_call 109; (with_reducible refine (HVV.out _).mono ?_); rintro e w4 ⟨rfl, hb⟩; have HB4 := Lib.hid (HB2.out.trans (hb.mono HB2.out.size)); clear hb)
                go_roundw
                case rel => exact ⟨j + 1, by omega, by go_num, Lib.hid ⟨hre.out.1.trans (HB4.out.mono hre.out.1.size), hre.out.2.1.below HB4.out, HS.out⟩⟩
                case measure => simp [intOf]; omega
              · have HVV := Lib.hid (fun (W : World) => HV.out v W)
                rw [show v.lives = 1 from if_neg hvk] at HVV
                have hR := (first_hit HY.out hvk).symm.trans hre.out.2.2
                cases hR
                clear hvk
                obtain ⟨v1, v2, v3⟩ := R2
                obtain ⟨k1, k2, k3⟩ := R1
                go_upto_region 16 with (go_at_call 109; (with_reducible refine (HVV.out _).mono ?_); rintro e w4 ⟨rfl, hb⟩; have HB4 := Lib.hid (HB2.out.trans (hb.mono HB2.out.size)); have HBX4 := Lib.hid (HBX.out.of (hb.block _ HBX.out.lt)); clear hb)
                have HT := Lib.hid (hre.out.2.1.below HB4.out)
                have hne4 : w.heap.size + 1 ≠ wr.heap.size := by have := hre.out.2.1.h4.lt; omega
                have hne5 : w.heap.size + 1 + 1 ≠ wr.heap.size := by have := hre.out.2.1.h5.lt; omega
                have p0 : ∀ W, Blk W wr.heap.size 190 [.int .i64 k1, .int .i64 k2, .string k3, .int .i64 v1, .int .i64 v2, .string v3, .bool true] → W.cell? ⟨wr.heap.size, 0, none⟩ = some (.int .i64 k1) := fun W hW => hW.cell 0 _ rfl
                have p1 : ∀ W, Blk W wr.heap.size 190 [.int .i64 k1, .int .i64 k2, .string k3, .int .i64 v1, .int .i64 v2, .string v3, .bool true] → W.cell? ⟨wr.heap.size, 1, none⟩ = some (.int .i64 k2) := fun W hW => hW.cell 1 _ rfl
                have p2 : ∀ W, Blk W wr.heap.size 190 [.int .i64 k1, .int .i64 k2, .string k3, .int .i64 v1, .int .i64 v2, .string v3, .bool true] → W.cell? ⟨wr.heap.size, 2, none⟩ = some (.string k3) := fun W hW => hW.cell 2 _ rfl
                have p3 : ∀ W, Blk W wr.heap.size 190 [.int .i64 k1, .int .i64 k2, .string k3, .int .i64 v1, .int .i64 v2, .string v3, .bool true] → W.cell? ⟨wr.heap.size, 3, none⟩ = some (.int .i64 v1) := fun W hW => hW.cell 3 _ rfl
                have p4 : ∀ W, Blk W wr.heap.size 190 [.int .i64 k1, .int .i64 k2, .string k3, .int .i64 v1, .int .i64 v2, .string v3, .bool true] → W.cell? ⟨wr.heap.size, 4, none⟩ = some (.int .i64 v2) := fun W hW => hW.cell 4 _ rfl
                have p5 : ∀ W, Blk W wr.heap.size 190 [.int .i64 k1, .int .i64 k2, .string k3, .int .i64 v1, .int .i64 v2, .string v3, .bool true] → W.cell? ⟨wr.heap.size, 5, none⟩ = some (.string v3) := fun W hW => hW.cell 5 _ rfl
                have hS0 : Blk ({ w4 with drawn := w4.drawn + 1 } : World) wr.heap.size 190 [.int .i64 k1, .int .i64 k2, .string k3, .int .i64 v1, .int .i64 v2, .string v3, .bool true] := HBX4.out
                have HB5 : Hid (Below wr.heap.size wr ({ w4 with drawn := w4.drawn + 1 } : World)) := Lib.hid ⟨HB4.out.os, HB4.out.tape, HB4.out.output, HB4.out.size, HB4.out.block⟩
                have HT5 : Hid (Two ({ w4 with drawn := w4.drawn + 1 } : World) (w.heap.size + 1)) := Lib.hid ⟨HT.out.h4, HT.out.h5⟩
                refine RG.region_F (fun W => Blk W wr.heap.size 190 [.int .i64 k1, .int .i64 k2, .string k3, .int .i64 v1, .int .i64 v2, .string v3, .bool true]) 6 (by kernel_rfl) ?_
                generalize ({ w4 with drawn := w4.drawn + 1 } : World) = w5 at hS0 HB5 HT5 ⊢
                clear HB4 HBX4 HT
                refine RG.takeF 0 (oi := ⟨some 62, _, _, _, _, _⟩) (v := ?_) rfl (by kernel_rfl) (by kernel_rfl) (by kernel_rfl) (by kernel_rfl) (fun _ _ _ h => h) (Or.inl ⟨by rfl, ?hz0⟩) hS0 ?sest0
                case hz0 => (intro W hW; (try dsimp only at hW); go_simp; try with_reducible rfl)
                simp only [Act.put, List.setIfInBounds_toArray, List.set_cons_zero, List.set_cons_succ]
                refine RG.takeF 1 (oi := ⟨some 63, _, _, _, _, _⟩) (v := ?_) rfl (by kernel_rfl) (by kernel_rfl) (by kernel_rfl) (by kernel_rfl) (fun _ _ _ h => h) (Or.inl ⟨by rfl, ?hz1⟩) hS0 ?sest1
                case hz1 => (intro W hW; (try dsimp only at hW); go_simp; try with_reducible rfl)
                simp only [Act.put, List.setIfInBounds_toArray, List.set_cons_zero, List.set_cons_succ]
                refine RG.takeF 2 (oi := ⟨some 64, _, _, _, _, _⟩) (v := ?_) rfl (by kernel_rfl) (by kernel_rfl) (by kernel_rfl) (by kernel_rfl) (fun _ _ _ h => h) (Or.inl ⟨by rfl, ?hz2⟩) hS0 ?sest2
                case hz2 => (intro W hW; (try dsimp only at hW); go_simp; try with_reducible rfl)
                simp only [Act.put, List.setIfInBounds_toArray, List.set_cons_zero, List.set_cons_succ]
                refine RG.takeF 3 (oi := ⟨some 65, _, _, _, _, _⟩) (v := ?_) rfl (by kernel_rfl) (by kernel_rfl) (by kernel_rfl) (by kernel_rfl) (fun _ _ _ h => h) (Or.inl ⟨by rfl, ?hz3⟩) hS0 ?sest3
                case hz3 => (intro W hW; (try dsimp only at hW); go_simp; try with_reducible rfl)
                simp only [Act.put, List.setIfInBounds_toArray, List.set_cons_zero, List.set_cons_succ]
                have x0 := HT5.out.h4.cell 0 _ rfl
                have x1 := HT5.out.h4.cell 1 _ rfl
                have x2 := HT5.out.h4.cell 2 _ rfl
                have f0 := HT5.out.h4.frozen 0
                have f1 := HT5.out.h4.frozen 1
                have f2 := HT5.out.h4.frozen 2
                refine RG.oneF 4 (by kernel_rfl) (by decide) ?_
                refine RG.wpOp_plain rfl rfl fun K hK => ?_
                go_simp
                refine hK _ _ ⟨(((hS0.setOther (Ne.symm hne4) _).setOther (Ne.symm hne4) _).setOther (Ne.symm hne4) _), ?_⟩
                clear hK K
                try simp only [Act.put, List.setIfInBounds_toArray, List.set_cons_zero, List.set_cons_succ]
                have hne45 : w.heap.size + 1 + 1 ≠ w.heap.size + 1 := by omega
                have hh5 := ((HT5.out.h5.setOther (a := ⟨w.heap.size + 1, 0, none⟩) hne45 (.int .i64 k1)).setOther (a := ⟨w.heap.size + 1, 1, none⟩) hne45 (.int .i64 k2)).setOther (a := ⟨w.heap.size + 1, 2, none⟩) hne45 (.string k3)
                have y0 := HT5.out.h5.cell 0 _ rfl
                have y1 := HT5.out.h5.cell 1 _ rfl
                have y2 := HT5.out.h5.cell 2 _ rfl
                have g0 := HT5.out.h5.frozen 0
                have g1 := HT5.out.h5.frozen 1
                have g2 := HT5.out.h5.frozen 2
                refine RG.oneF 5 (by kernel_rfl) (by decide) ?_
                refine RG.wpOp_plain rfl rfl fun K hK => ?_
                go_simp
                refine hK _ _ ⟨((((((hS0.setOther (Ne.symm hne4) _).setOther (Ne.symm hne4) _).setOther (Ne.symm hne4) _).setOther (Ne.symm hne5) _).setOther (Ne.symm hne5) _).setOther (Ne.symm hne5) _), ?_⟩
                clear hK K
                try simp only [Act.put, List.setIfInBounds_toArray, List.set_cons_zero, List.set_cons_succ]
                refine RG.lastF (by kernel_rfl) (by kernel_rfl) ?_
                refine RG.wpOp_plain rfl rfl fun K hK => ?_
                go_simp
                refine hK _ _ ?_
                clear hK K
                try simp only [Act.put, List.setIfInBounds_toArray, List.set_cons_zero, List.set_cons_succ]
                have HBZ := Lib.hid (hre.out.1.trans (HB5.out.mono hre.out.1.size))
                go_wp2
                refine bodyPost_ret (results_val3 (x := ⟨k1, k2, k3⟩) (y := ⟨v1, v2, v3⟩) rfl _ rfl rfl rfl ((((((HT5.out.h4.setSame 0 _).setSame 1 _).setSame 2 _).setOther (Ne.symm hne45) _).setOther (Ne.symm hne45) _).setOther (Ne.symm hne45) _) (((hh5.setSame 0 _).setSame 1 _).setSame 2 _)) rfl ⟨rfl, ?_⟩
                exact (((((HBZ.out.setCell (by simp) _).setCell (by simp) _).setCell (by simp) _).setCell (by simp; omega) _).setCell (by simp; omega) _).setCell (by simp; omega) _
          · obtain hjm : i + 1 + j = m := by omega
            have hj3 : ¬ (j : Int) < (m : Int) - ((i : Int) + 1) := by omega
            have hR := hre.out.2.2
            rw [first_end (by rw [← EM.out]; omega)] at hR
            cases hR
            have HT := Lib.hid hre.out.2.1
            have x0 := HT.out.h4.cell 0 _ rfl
            have x1 := HT.out.h4.cell 1 _ rfl
            have x2 := HT.out.h4.cell 2 _ rfl
            have f0 := HT.out.h4.frozen 0
            have f1 := HT.out.h4.frozen 1
            have f2 := HT.out.h4.frozen 2
            have y0 := HT.out.h5.cell 0 _ rfl
            have y1 := HT.out.h5.cell 1 _ rfl
            have y2 := HT.out.h5.cell 2 _ rfl
            have g0 := HT.out.h5.frozen 0
            have g1 := HT.out.h5.frozen 1
            have g2 := HT.out.h5.frozen 2
            have hne45 : w.heap.size + 1 + 1 ≠ w.heap.size + 1 := by omega
            have HBZ := Lib.hid hre.out.1
            go_wp2_with fail
            refine bodyPost_ret (results_val3 (x := Val.nil) (y := Val.nil) rfl _ rfl rfl rfl ((((((HT.out.h4.setSame 0 _).setSame 1 _).setSame 2 _).setOther (Ne.symm hne45) _).setOther (Ne.symm hne45) _).setOther (Ne.symm hne45) _) ((((((HT.out.h5.setOther hne45 _).setOther hne45 _).setOther hne45 _).setSame 0 _).setSame 1 _).setSame 2 _)) rfl ⟨rfl, ?_⟩
            exact (((((HBZ.out.setCell (by simp) _).setCell (by simp) _).setCell (by simp) _).setCell (by simp; omega) _).setCell (by simp; omega) _).setCell (by simp; omega) _
    · have hM : nextM L x = ((Val.nil, Val.nil), 15) := by
        unfold nextM; rw [if_neg hk, h1]; rfl
      rw [hM]
      have HTWO : Hid (∀ W, Two W (w.heap.size + 1) → Below w.heap.size w W → ∀ tmps : Array Value, tmps.getD 4 undef = .pointer (some ⟨w.heap.size + 1, 0, none⟩) → tmps.getD 5 undef = .pointer (some ⟨w.heap.size + 1 + 1, 0, none⟩) → tmps.getD 6 undef = .int .i64 15 → ∀ W', W' = ((((((W.setCell ⟨w.heap.size + 1, 0, none⟩ (.int .i64 0)).setCell ⟨w.heap.size + 1, 1, none⟩ (.int .i64 0)).setCell ⟨w.heap.size + 1, 2, none⟩ (.string ⟨#[]⟩)).setCell ⟨w.heap.size + 1 + 1, 0, none⟩ (.int .i64 0)).setCell ⟨w.heap.size + 1 + 1, 1, none⟩ (.int .i64 0)).setCell ⟨w.heap.size + 1 + 1, 2, none⟩ (.string ⟨#[]⟩)) →
          bodyPost Try.prog Try.f49 (fun e w' => e = Ending.returned (.tuple #[Val.nil.v, Val.nil.v, .int .i64 15]) ∧ Below w.heap.size w w') Exit.ret ⟨tmps, []⟩ W') := Lib.hid (fun W hT hB tmps ht hs hu W' hW' => by
        subst hW'
        have hne45 : w.heap.size + 1 + 1 ≠ w.heap.size + 1 := by omega
        refine bodyPost_ret (results_val3 (x := Val.nil) (y := Val.nil) rfl _ ht hs hu ((((((hT.h4.setSame 0 _).setSame 1 _).setSame 2 _).setOther (Ne.symm hne45) _).setOther (Ne.symm hne45) _).setOther (Ne.symm hne45) _) ((((((hT.h5.setOther hne45 _).setOther hne45 _).setOther hne45 _).setSame 0 _).setSame 1 _).setSame 2 _)) rfl ⟨rfl, ?_⟩
        exact (((((hB.setCell (by simp) _).setCell (by simp) _).setCell (by simp) _).setCell (by simp; omega) _).setCell (by simp; omega) _).setCell (by simp; omega) _)
      clear hM hk
      cases hbad : x.bad with
      | true =>
        have hE : keyE x = 15 := by unfold keyE; rw [hbad]; rfl
        rw [hE] at HKY
        generalize hkv : keyV x = k at *
        clear h h1 h2 h3 h4 hE hbad hkv
        obtain ⟨k1, k2, k3⟩ := k
        obtain ⟨x1, x2, x3⟩ := x
        go_enter Try.func49, Try.ntmps49
        go_wp2_with (first
          | (go_at_call 43; (with_reducible refine (HKY.out _).mono ?_); rintro e w1 ⟨rfl, hb⟩; have HB1 := Lib.hid (HB0.out.trans (hb.mono HB0.out.size)); have HT1 := Lib.hid (HTW.out.below hb); clear hb; have HB2 : Hid (Below w.heap.size w (w1.alloc (.cells #[.int .i64 k1, .int .i64 k2, .string k3] 57))) := Lib.hid (HB1.out.alloc HB1.out.size _); have HT2 := Lib.hid (HT1.out.below ((Below.refl w1.heap.size w1).alloc (Nat.le_refl _) (.cells #[.int .i64 k1, .int .i64 k2, .string k3] 57))); have x0 := HT2.out.h4.cell 0 _ rfl; have x1 := HT2.out.h4.cell 1 _ rfl; have x2 := HT2.out.h4.cell 2 _ rfl; have f0 := HT2.out.h4.frozen 0; have f1 := HT2.out.h4.frozen 1; have f2 := HT2.out.h4.frozen 2; have y0 := HT2.out.h5.cell 0 _ rfl; have y1 := HT2.out.h5.cell 1 _ rfl; have y2 := HT2.out.h5.cell 2 _ rfl; have g0 := HT2.out.h5.frozen 0; have g1 := HT2.out.h5.frozen 1; have g2 := HT2.out.h5.frozen 2))
        exact HTWO.out _ HT2.out HB2.out _ rfl rfl rfl _ rfl
      | false =>
        have hE : keyE x = 0 := by unfold keyE; rw [hbad]; rfl
        have hF : (findM T es (keyV x)).2 = -1 := by rw [← h3]; unfold entI; rw [hbad]; rfl
        rw [hE] at HKY
        rw [hF] at HF
        generalize hkv : keyV x = k at *
        generalize (findM T es k).1 = pl at *
        clear h h1 h2 h3 h4 hE hF hbad hkv
        obtain ⟨k1, k2, k3⟩ := k
        obtain ⟨x1, x2, x3⟩ := x
        go_enter Try.func49, Try.ntmps49
        go_wp2_with (first
          | (go_at_call 43; (with_reducible refine (HKY.out _).mono ?_); rintro e w1 ⟨rfl, hb⟩; have HB1 := Lib.hid (HB0.out.trans (hb.mono HB0.out.size)); have HT1 := Lib.hid (HTW.out.below hb); clear hb; have HB2 : Hid (Below w.heap.size w (w1.alloc (.cells #[.int .i64 k1, .int .i64 k2, .string k3] 57))) := Lib.hid (HB1.out.alloc HB1.out.size _); have HT2 := Lib.hid (HT1.out.below ((Below.refl w1.heap.size w1).alloc (Nat.le_refl _) (.cells #[.int .i64 k1, .int .i64 k2, .string k3] 57))))
          | (go_at_call 111; (with_reducible refine (HF.out _ (HI.out.below HB2.out)).mono ?_); rintro e w2 ⟨rfl, hb⟩; have HB3 := Lib.hid (HB2.out.trans (hb.mono HB2.out.size)); have HT3 := Lib.hid (HT2.out.below hb); clear hb; have x0 := HT3.out.h4.cell 0 _ rfl; have x1 := HT3.out.h4.cell 1 _ rfl; have x2 := HT3.out.h4.cell 2 _ rfl; have f0 := HT3.out.h4.frozen 0; have f1 := HT3.out.h4.frozen 1; have f2 := HT3.out.h4.frozen 2; have y0 := HT3.out.h5.cell 0 _ rfl; have y1 := HT3.out.h5.cell 1 _ rfl; have y2 := HT3.out.h5.cell 2 _ rfl; have g0 := HT3.out.h5.frozen 0; have g1 := HT3.out.h5.frozen 1; have g2 := HT3.out.h5.frozen 2))
        exact HTWO.out _ HT3.out HB3.out _ rfl rfl rfl _ rfl
end
end Go.Proofs.Ytmjfmfelbmbniaa
