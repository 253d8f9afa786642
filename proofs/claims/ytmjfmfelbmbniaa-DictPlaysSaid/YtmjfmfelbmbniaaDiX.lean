/- Layer 13: a dictionary of the call's own, beside boxes of values and blocks that it leaves alone: the calls. -/
import Derived.Test.YtmjfmfelbmbniaaDiW
namespace Go.Proofs.Ytmjfmfelbmbniaa
open Go.RowKit Go.Maps HK ShM
set_option linter.unusedVariables false
set_option linter.unusedSimpArgs false
def Dct (Z : Nat → Prop) (w0 w : World) (d : Nat) (L : Pairs) (N : Nat) (B : List (Nat × Val)) : Prop :=
  ∃ X, DAt w X d L N ∧ (∀ b, X b → w0.heap.size ≤ b ∧ ¬ Z b) ∧ Below w0.heap.size w0 w ∧ ∀ p ∈ B, Blk w p.1 57 p.2.cells ∧ ¬ X p.1
section
variable {Z : Nat → Prop} {w0 w w' : World} {d N : Nat} {L : Pairs} {B : List (Nat × Val)}
theorem Dct.bel (h : Dct Z w0 w d L N B) : Below w0.heap.size w0 w := by obtain ⟨X, _, _, h, _⟩ := h; exact h
theorem Dct.below (h : Dct Z w0 w d L N B) (hb : Below w.heap.size w w') : Dct Z w0 w' d L N B := by
  obtain ⟨X, h1, h2, h3, h4⟩ := h
  exact ⟨X, h1.below hb, h2, h3.trans (hb.mono h3.size), fun p hp => ⟨(h4 p hp).1.of (hb.block _ (h4 p hp).1.lt), (h4 p hp).2⟩⟩
theorem Dct.mono (h : Dct Z w0 w d L N B) {M : Nat} (hM : N ≤ M) : Dct Z w0 w d L M B := by
  obtain ⟨X, h1, h2⟩ := h
  exact ⟨X, h1.mono hM, h2⟩
theorem Dct.sub (h : Dct Z w0 w d L N B) {B' : List (Nat × Val)} (hB : ∀ p ∈ B', p ∈ B) : Dct Z w0 w d L N B' := by
  obtain ⟨X, h1, h2, h3, h4⟩ := h
  exact ⟨X, h1, h2, h3, fun p hp => h4 p (hB p hp)⟩
theorem Dct.box (h : Dct Z w0 w d L N B) {b : Nat} {v : Val} (hp : (b, v) ∈ B) : Blk w b 57 v.cells := by
  obtain ⟨X, _, _, _, h4⟩ := h
  exact (h4 _ hp).1
theorem Dct.push (h : Dct Z w0 w d L N B) (hb : Below w.heap.size w w') {b : Nat} {v : Val} (hv : Blk w' b 57 v.cells) (hn : w.heap.size ≤ b) : Dct Z w0 w' d L N ((b, v) :: B) := by
  obtain ⟨X, h1, h2, h3, h4⟩ := h.below hb
  obtain ⟨X', g1, g2, g3, g4⟩ := h
  refine ⟨X', g1.below hb, g2, h3, fun p hp => ?_⟩
  rcases List.mem_cons.1 hp with rfl | hp
  · exact ⟨hv, fun hx => by have := g1.lt _ hx; omega⟩
  · exact ⟨(g4 p hp).1.of (hb.block _ (g4 p hp).1.lt), (g4 p hp).2⟩
theorem Dct.rebox (h : Dct Z w0 w d L N B) {b : Nat} {v v' : Val} (hp : (b, v) ∈ B) (hc : Chg (fun c => c = b) w w') (hv : Blk w' b 57 v'.cells) (h0 : w0.heap.size ≤ b) {B' : List (Nat × Val)} (hB : ∀ p ∈ B', p = (b, v') ∨ p ∈ B ∧ p.1 ≠ b) : Dct Z w0 w' d L N B' := by
  obtain ⟨X, h1, h2, h3, h4⟩ := h
  have hx := (h4 _ hp).2
  refine ⟨X, h1.of hc.size (fun c hc' => hc.block c (h1.lt c hc') (fun e => hx (by subst e; exact hc'))), h2, h3.trans (hc.below h3.size (fun c e => by subst e; exact h0)), fun p hp => ?_⟩
  rcases hB p hp with rfl | ⟨hp, hne⟩
  · exact ⟨hv, hx⟩
  · exact ⟨(h4 p hp).1.of (hc.block _ (h4 p hp).1.lt hne), (h4 p hp).2⟩
/-- More blocks that are left alone: old ones, and new ones. -/
theorem Dct.zone (h : Dct Z w0 w d L N B) {Y : Nat → Prop} (hY : ∀ b, Y b → Z b ∨ w.heap.size ≤ b) : Dct Y w0 w d L N B := by
  obtain ⟨X, h1, h2, h3, h4⟩ := h
  exact ⟨X, h1, fun b hb => ⟨(h2 b hb).1, fun hy => (hY b hy).elim (h2 b hb).2 (fun h => by have := h1.lt b hb; omega)⟩, h3, h4⟩
/-- A row that is left alone is written. -/
theorem Dct.chg (h : Dct Z w0 w d L N B) {C : Nat → Prop} (hc : Chg C w w') (hC : ∀ b, C b → Z b ∧ w0.heap.size ≤ b) (hB : ∀ p ∈ B, ¬ C p.1) : Dct Z w0 w' d L N B := by
  obtain ⟨X, h1, h2, h3, h4⟩ := h
  exact ⟨X, h1.of hc.size (fun b hb => hc.block b (h1.lt b hb) (fun e => (h2 b hb).2 (hC b e).1)), h2, h3.trans (hc.below h3.size (fun b hb => (hC b hb).2)), fun p hp => ⟨(h4 p hp).1.of (hc.block _ (h4 p hp).1.lt (hB p hp)), (h4 p hp).2⟩⟩
theorem Dct.new (Z : Nat → Prop) (w0 w : World) (h0 : Below w0.heap.size w0 w) (hZ : ∀ b, Z b → b < w.heap.size) (B : List (Nat × Val)) (hB : ∀ p ∈ B, Blk w p.1 57 p.2.cells) : Calls Try.prog 42 #[] w fun e w' => ∃ d, e = .returned (.pointer (some ⟨d, 0, none⟩)) ∧ Dct Z w0 w' d [] 0 B ∧ Below w.heap.size w w' := by
  with_reducible refine (dnew_calls w).mono ?_
  rintro e w' ⟨d, X, rfl, h1, h2, h3⟩
  exact ⟨d, rfl, ⟨X, h1, fun b hb => ⟨Nat.le_trans h0.size (h2 b hb), fun hz => by have := hZ b hz; have := h2 b hb; omega⟩, h0.trans (h3.mono h0.size), fun p hp => ⟨(hB p hp).of (h3.block _ (hB p hp).lt), fun hx => by have := h2 _ hx; have := (hB p hp).lt; omega⟩⟩, h3⟩
theorem Dct.set (h : Dct Z w0 w d L N B) (hZ : ∀ b, Z b → b < w.heap.size) (hN : N < 131072) (x v : Val) (hx : x.s.size ≤ maxLen) : Calls Try.prog 44 #[.pointer (some ⟨d, 0, none⟩), x.v, v.v] w fun e w' => e = .returned (.tuple #[.bool (setF L x v), .int .i64 (keyE x)]) ∧ Dct Z w0 w' d (setL L x v) (N + 1) B ∧ w.heap.size ≤ w'.heap.size ∧ ∀ b, Z b → w'.heap[b]? = w.heap[b]? := by
  obtain ⟨X, h1, h2, h3, h4⟩ := h
  with_reducible refine (dset_calls h1 hN x v hx).mono ?_
  rintro e w' ⟨rfl, X', g1, g2, g3⟩
  refine ⟨rfl, ⟨X', g1, fun b hb => ?_, h3.trans (g3.below h3.size (fun b hb => (h2 b hb).1)), fun p hp => ⟨(h4 p hp).1.of (g3.block _ (h4 p hp).1.lt (h4 p hp).2), fun hx => ?_⟩⟩, g3.size, fun b hb => g3.block b (hZ b hb) (fun hx => (h2 b hx).2 hb)⟩
  · rcases g2 b hb with h | h
    · exact h2 b h
    · exact ⟨Nat.le_trans h3.size h, fun hz => by have := hZ b hz; omega⟩
  · rcases g2 _ hx with h | h
    · exact (h4 p hp).2 h
    · have := (h4 p hp).1.lt; omega
theorem Dct.drop (h : Dct Z w0 w d L N B) (hZ : ∀ b, Z b → b < w.heap.size) (x : Val) (hx : x.s.size ≤ maxLen) : Calls Try.prog 45 #[.pointer (some ⟨d, 0, none⟩), x.v] w fun e w' => e = .returned (.bool (hasK L x)) ∧ Dct Z w0 w' d (if hasK L x then dropA L (keyV x) else L) N B ∧ w.heap.size ≤ w'.heap.size ∧ ∀ b, Z b → w'.heap[b]? = w.heap[b]? := by
  obtain ⟨X, h1, h2, h3, h4⟩ := h
  with_reducible refine (ddrop_calls h1 x hx).mono ?_
  rintro e w' ⟨rfl, g1, g3⟩
  exact ⟨rfl, ⟨X, g1, h2, h3.trans (g3.below h3.size (fun b hb => (h2 b hb).1)), fun p hp => ⟨(h4 p hp).1.of (g3.block _ (h4 p hp).1.lt (h4 p hp).2), (h4 p hp).2⟩⟩, g3.size, fun b hb => g3.block b (hZ b hb) (fun hx => (h2 b hx).2 hb)⟩
theorem Dct.get (h : Dct Z w0 w d L N B) (x : Val) (hx : x.s.size ≤ maxLen) : Calls Try.prog 47 #[.pointer (some ⟨d, 0, none⟩), x.v] w fun e w' => e = .returned (getV L x).v ∧ Below w.heap.size w w' := by
  obtain ⟨X, h1, _⟩ := h; exact dget_calls h1 x hx
theorem Dct.has (h : Dct Z w0 w d L N B) (x : Val) (hx : x.s.size ≤ maxLen) : Calls Try.prog 56 #[.pointer (some ⟨d, 0, none⟩), x.v] w fun e w' => e = .returned (.bool (hasK L x)) ∧ Below w.heap.size w w' := by
  obtain ⟨X, h1, _⟩ := h; exact dhas_calls h1 x hx
theorem Dct.next (h : Dct Z w0 w d L N B) (x : Val) (hx : x.s.size ≤ maxLen) : Calls Try.prog 49 #[.pointer (some ⟨d, 0, none⟩), x.v] w fun e w' => e = .returned (.tuple #[(nextM L x).1.1.v, (nextM L x).1.2.v, .int .i64 (nextM L x).2]) ∧ Below w.heap.size w w' := by
  obtain ⟨X, h1, _⟩ := h; exact dnext_calls h1 x hx
theorem Dct.len (h : Dct Z w0 w d L N B) (hN : N ≤ 1048576) : Calls Try.prog 46 #[.pointer (some ⟨d, 0, none⟩)] w fun e w' => e = .returned (.int .i64 (L.length : Nat)) ∧ Below w.heap.size w w' := by
  obtain ⟨X, h1, _⟩ := h; exact dlen_calls h1 hN
theorem Dct.live (h : Dct Z w0 w d L N B) : Calls Try.prog 48 #[.pointer (some ⟨d, 0, none⟩)] w fun e w' => e = .returned (.int .i64 (liveL L : Nat)) ∧ w = w' := by
  obtain ⟨X, h1, _⟩ := h; exact dlive_calls h1
end
end Go.Proofs.Ytmjfmfelbmbniaa
