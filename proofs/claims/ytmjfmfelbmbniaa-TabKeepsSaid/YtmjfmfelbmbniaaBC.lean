/- Texts of layers 12 to 14, one behind the other: plain models, what stands in memory, the functions' contracts. -/
import Derived.Test.YtmjfmfelbmbniaaBB
import Derived.Test.YtmjfmfelbmbniaaBA
/- Layer 13: New; Set of no dictionary. -/
namespace Go.Proofs.Ytmjfmfelbmbniaa
open Go.RowKit Go.Maps HK ShM
set_option linter.unusedVariables false
set_option linter.unusedSimpArgs false
set_option maxRecDepth 20000 in
theorem dnew_calls (w : World) : Calls Try.prog 42 #[] w fun e w' => ∃ d X, e = .returned (.pointer (some ⟨d, 0, none⟩)) ∧ DAt w' X d [] 0 ∧ (∀ b, X b → w.heap.size ≤ b) ∧ Below w.heap.size w w' := by
  obtain ⟨i3, hi3, hz3, hz31, hz32⟩ := info_parts info3
  go_enter Try.func42, Try.ntmps42
  go_wp2_with (at_make; refine wpList_make_full _ rfl _ _ 46 rfl w.heap.size 3 i3 (.int .i64 0) 1 Try.underlying46 hi3 hz3 hz31 .i64 .i64 8 8 8 rfl rfl rfl rfl (by rw [hz32]; decide) (by decide) (Nat.le_refl _) ?_; intro w3 hrow hgr; have HT := Lib.hid hrow; have HG := Lib.hid hgr; clear hrow hgr)
  go_ret
  have hb : Below w.heap.size w w3 := (Below.refl _ _).grown HG.out (Nat.le_refl _) (fun k e => by cases e)
  have h1 := HT.out
  rw [Nat.mul_one, show (Value.int .i64 0).cells = #[.int .i64 0] from rfl, toList_madeCells_one] at h1
  have ht := row_full h1
  refine ⟨_, fun b => b = w3.heap.size ∨ b = w.heap.size, rfl, ⟨[], .slice none 0 0, w.heap.size, List.replicate (2 ^ 3) 0, ⟨⟨by have h := Blk.new w3 [.slice none 0 0, .slice (some ⟨w.heap.size, 0, none⟩) 8 8, .int .i64 0, .int .i64 0] 185; simpa [absE, liveL] using h, ?_, ?_⟩, TabOK.none 3 (by omega) (by omega), ?_, ?_, .inl rfl, .inr rfl, ?_, ?_⟩, rfl, Nat.le_refl _⟩, ?_, ?_⟩
  · exact World.ownsRow_nil _ _ _ _
  · exact ht.alloc _
  · intro i j k v w' h; simp at h
  · intro i k v h; simp at h
  · intro g hg; cases hg
  · intro b hb
    have h2 := ht.lt
    rcases hb with rfl | rfl <;> simp <;> omega
  · intro b h; have := hb.size; rcases h with rfl | rfl <;> omega
  · exact hb.alloc hb.size _
set_option maxRecDepth 20000 in
theorem dset_nil (x v : Val) (w : World) : Calls Try.prog 44 #[.pointer none, x.v, v.v] w fun e w' => e = .returned (.tuple #[.bool false, .int .i64 19]) ∧ Below w.heap.size w w' := by
  obtain ⟨x1, x2, x3⟩ := x
  obtain ⟨v1, v2, v3⟩ := v
  go_enter Try.func44, Try.ntmps44
  go_wp2
  go_ret2
  exact ⟨rfl, by (repeat (first | exact Below.refl _ _ | (refine Below.alloc ?_ (by simp <;> omega) _)))⟩
end Go.Proofs.Ytmjfmfelbmbniaa

/- Layer 13: a dictionary of the call's own, beside boxes of values and blocks that it leaves alone: the calls. -/
namespace Go.Proofs.Ytmjfmfelbmbniaa
open Go.RowKit Go.Maps HK ShM
set_option linter.unusedVariables false
set_option linter.unusedSimpArgs false
def Dct (Z : Nat → Prop) (w0 w : World) (d : Nat) (L : Pairs) (N : Nat) (B : List (Nat × Val)) : Prop :=
  ∃ X, DAt w X d L N ∧ (∀ b, X b → w0.heap.size ≤ b ∧ ¬ Z b) ∧ Below w0.heap.size w0 w ∧ ∀ p ∈ B, Blk w p.1 57 p.2.cells ∧ ¬ X p.1
section
variable {Z : Nat → Prop} {w0 w w' : World} {d N : Nat} {L : Pairs} {B : List (Nat × Val)}
theorem Dct.bel (h : Dct Z w0 w d L N B) : Below w0.heap.size w0 w := by obtain ⟨X, _, _, h, _⟩ := h; exact h
theorem Dct.below (h : Dct Z w0 w d L N B) (hb : Below w.heap.size w w') : Dct Z w0 w' d L N B := by
  obtain ⟨X, h1, h2, h3, h4⟩ := h
  exact ⟨X, h1.below hb, h2, h3.trans (hb.mono h3.size), fun p hp => ⟨(h4 p hp).1.of (hb.block _ (h4 p hp).1.lt), (h4 p hp).2⟩⟩
theorem Dct.mono (h : Dct Z w0 w d L N B) {M : Nat} (hM : N ≤ M) : Dct Z w0 w d L M B := by
  obtain ⟨X, h1, h2⟩ := h
  exact ⟨X, h1.mono hM, h2⟩
theorem Dct.sub (h : Dct Z w0 w d L N B) {B' : List (Nat × Val)} (hB : ∀ p ∈ B', p ∈ B) : Dct Z w0 w d L N B' := by
  obtain ⟨X, h1, h2, h3, h4⟩ := h
  exact ⟨X, h1, h2, h3, fun p hp => h4 p (hB p hp)⟩
theorem Dct.box (h : Dct Z w0 w d L N B) {b : Nat} {v : Val} (hp : (b, v) ∈ B) : Blk w b 57 v.cells := by
  obtain ⟨X, _, _, _, h4⟩ := h
  exact (h4 _ hp).1
theorem Dct.push (h : Dct Z w0 w d L N B) (hb : Below w.heap.size w w') {b : Nat} {v : Val} (hv : Blk w' b 57 v.cells) (hn : w.heap.size ≤ b) : Dct Z w0 w' d L N ((b, v) :: B) := by
  obtain ⟨X, h1, h2, h3, h4⟩ := h.below hb
  obtain ⟨X', g1, g2, g3, g4⟩ := h
  refine ⟨X', g1.below hb, g2, h3, fun p hp => ?_⟩
  rcases List.mem_cons.1 hp with rfl | hp
  · exact ⟨hv, fun hx => by have := g1.lt _ hx; omega⟩
  · exact ⟨(g4 p hp).1.of (hb.block _ (g4 p hp).1.lt), (g4 p hp).2⟩
theorem Dct.rebox (h : Dct Z w0 w d L N B) {b : Nat} {v v' : Val} (hp : (b, v) ∈ B) (hc : Chg (fun c => c = b) w w') (hv : Blk w' b 57 v'.cells) (h0 : w0.heap.size ≤ b) {B' : List (Nat × Val)} (hB : ∀ p ∈ B', p = (b, v') ∨ p ∈ B ∧ p.1 ≠ b) : Dct Z w0 w' d L N B' := by
  obtain ⟨X, h1, h2, h3, h4⟩ := h
  have hx := (h4 _ hp).2
  refine ⟨X, h1.of hc.size (fun c hc' => hc.block c (h1.lt c hc') (fun e => hx (by subst e; exact hc'))), h2, h3.trans (hc.below h3.size (fun c e => by subst e; exact h0)), fun p hp => ?_⟩
  rcases hB p hp with rfl | ⟨hp, hne⟩
  · exact ⟨hv, hx⟩
  · exact ⟨(h4 p hp).1.of (hc.block _ (h4 p hp).1.lt hne), (h4 p hp).2⟩
/-- More blocks that are left alone: old ones, and new ones. -/
theorem Dct.zone (h : Dct Z w0 w d L N B) {Y : Nat → Prop} (hY : ∀ b, Y b → Z b ∨ w.heap.size ≤ b) : Dct Y w0 w d L N B := by
  obtain ⟨X, h1, h2, h3, h4⟩ := h
  exact ⟨X, h1, fun b hb => ⟨(h2 b hb).1, fun hy => (hY b hy).elim (h2 b hb).2 (fun h => by have := h1.lt b hb; omega)⟩, h3, h4⟩
/-- A row that is left alone is written. -/
theorem Dct.chg (h : Dct Z w0 w d L N B) {C : Nat → Prop} (hc : Chg C w w') (hC : ∀ b, C b → Z b ∧ w0.heap.size ≤ b) (hB : ∀ p ∈ B, ¬ C p.1) : Dct Z w0 w' d L N B := by
  obtain ⟨X, h1, h2, h3, h4⟩ := h
  exact ⟨X, h1.of hc.size (fun b hb => hc.block b (h1.lt b hb) (fun e => (h2 b hb).2 (hC b e).1)), h2, h3.trans (hc.below h3.size (fun b hb => (hC b hb).2)), fun p hp => ⟨(h4 p hp).1.of (hc.block _ (h4 p hp).1.lt (hB p hp)), (h4 p hp).2⟩⟩
theorem Dct.new (Z : Nat → Prop) (w0 w : World) (h0 : Below w0.heap.size w0 w) (hZ : ∀ b, Z b → b < w.heap.size) (B : List (Nat × Val)) (hB : ∀ p ∈ B, Blk w p.1 57 p.2.cells) : Calls Try.prog 42 #[] w fun e w' => ∃ d, e = .returned (.pointer (some ⟨d, 0, none⟩)) ∧ Dct Z w0 w' d [] 0 B ∧ Below w.heap.size w w' := by
  with_reducible refine (dnew_calls w).mono ?_
  rintro e w' ⟨d, X, rfl, h1, h2, h3⟩
  exact ⟨d, rfl, ⟨X, h1, fun b hb => ⟨Nat.le_trans h0.size (h2 b hb), fun hz => by have := hZ b hz; have := h2 b hb; omega⟩, h0.trans (h3.mono h0.size), fun p hp => ⟨(hB p hp).of (h3.block _ (hB p hp).lt), fun hx => by have := h2 _ hx; have := (hB p hp).lt; omega⟩⟩, h3⟩
theorem Dct.set (h : Dct Z w0 w d L N B) (hZ : ∀ b, Z b → b < w.heap.size) (hN : N < 131072) (x v : Val) (hx : x.s.size ≤ maxLen) : Calls Try.prog 44 #[.pointer (some ⟨d, 0, none⟩), x.v, v.v] w fun e w' => e = .returned (.tuple #[.bool (setF L x v), .int .i64 (keyE x)]) ∧ Dct Z w0 w' d (setL L x v) (N + 1) B ∧ w.heap.size ≤ w'.heap.size ∧ ∀ b, Z b → w'.heap[b]? = w.heap[b]? := by
  obtain ⟨X, h1, h2, h3, h4⟩ := h
  with_reducible refine (dset_calls h1 hN x v hx).mono ?_
  rintro e w' ⟨rfl, X', g1, g2, g3⟩
  refine ⟨rfl, ⟨X', g1, fun b hb => ?_, h3.trans (g3.below h3.size (fun b hb => (h2 b hb).1)), fun p hp => ⟨(h4 p hp).1.of (g3.block _ (h4 p hp).1.lt (h4 p hp).2), fun hx => ?_⟩⟩, g3.size, fun b hb => g3.block b (hZ b hb) (fun hx => (h2 b hx).2 hb)⟩
  · rcases g2 b hb with h | h
    · exact h2 b h
    · exact ⟨Nat.le_trans h3.size h, fun hz => by have := hZ b hz; omega⟩
  · rcases g2 _ hx with h | h
    · exact (h4 p hp).2 h
    · have := (h4 p hp).1.lt; omega
theorem Dct.drop (h : Dct Z w0 w d L N B) (hZ : ∀ b, Z b → b < w.heap.size) (x : Val) (hx : x.s.size ≤ maxLen) : Calls Try.prog 45 #[.pointer (some ⟨d, 0, none⟩), x.v] w fun e w' => e = .returned (.bool (hasK L x)) ∧ Dct Z w0 w' d (if hasK L x then dropA L (keyV x) else L) N B ∧ w.heap.size ≤ w'.heap.size ∧ ∀ b, Z b → w'.heap[b]? = w.heap[b]? := by
  obtain ⟨X, h1, h2, h3, h4⟩ := h
  with_reducible refine (ddrop_calls h1 x hx).mono ?_
  rintro e w' ⟨rfl, g1, g3⟩
  exact ⟨rfl, ⟨X, g1, h2, h3.trans (g3.below h3.size (fun b hb => (h2 b hb).1)), fun p hp => ⟨(h4 p hp).1.of (g3.block _ (h4 p hp).1.lt (h4 p hp).2), (h4 p hp).2⟩⟩, g3.size, fun b hb => g3.block b (hZ b hb) (fun hx => (h2 b hx).2 hb)⟩
theorem Dct.get (h : Dct Z w0 w d L N B) (x : Val) (hx : x.s.size ≤ maxLen) : Calls Try.prog 47 #[.pointer (some ⟨d, 0, none⟩), x.v] w fun e w' => e = .returned (getV L x).v ∧ Below w.heap.size w w' := by
  obtain ⟨X, h1, _⟩ := h; exact dget_calls h1 x hx
theorem Dct.has (h : Dct Z w0 w d L N B) (x : Val) (hx : x.s.size ≤ maxLen) : Calls Try.prog 56 #[.pointer (some ⟨d, 0, none⟩), x.v] w fun e w' => e = .returned (.bool (hasK L x)) ∧ Below w.heap.size w w' := by
  obtain ⟨X, h1, _⟩ := h; exact dhas_calls h1 x hx
theorem Dct.next (h : Dct Z w0 w d L N B) (x : Val) (hx : x.s.size ≤ maxLen) : Calls Try.prog 49 #[.pointer (some ⟨d, 0, none⟩), x.v] w fun e w' => e = .returned (.tuple #[(nextM L x).1.1.v, (nextM L x).1.2.v, .int .i64 (nextM L x).2]) ∧ Below w.heap.size w w' := by
  obtain ⟨X, h1, _⟩ := h; exact dnext_calls h1 x hx
theorem Dct.len (h : Dct Z w0 w d L N B) (hN : N ≤ 1048576) : Calls Try.prog 46 #[.pointer (some ⟨d, 0, none⟩)] w fun e w' => e = .returned (.int .i64 (L.length : Nat)) ∧ Below w.heap.size w w' := by
  obtain ⟨X, h1, _⟩ := h; exact dlen_calls h1 hN
theorem Dct.live (h : Dct Z w0 w d L N B) : Calls Try.prog 48 #[.pointer (some ⟨d, 0, none⟩)] w fun e w' => e = .returned (.int .i64 (liveL L : Nat)) ∧ w = w' := by
  obtain ⟨X, h1, _⟩ := h; exact dlive_calls h1
end
end Go.Proofs.Ytmjfmfelbmbniaa

/- Layer 13: steps as they come in; great. -/
namespace Go.Proofs.Ytmjfmfelbmbniaa
open Go.RowKit Go.Maps HK ShM
set_option linter.unusedVariables false
set_option linter.unusedSimpArgs false
attribute [local go_sem ↓] run_max_two run_min_two
/-- A step: which, a key, a value. -/
structure OpV where
  c : Int
  k : Val
  v : Val
abbrev OpV.cells (x : OpV) : List Value := [.int .i64 x.c, .int .i64 x.k.k, .int .i64 x.k.n, .string x.k.s, .int .i64 x.v.k, .int .i64 x.v.n, .string x.v.s]
/-- A slice of steps that is only read. -/
def RdO (w : World) (v : Value) (l : List OpV) : Prop := ∃ a c, v = .slice a l.length c ∧ l.length ≤ c ∧ c ≤ maxLen ∧ l.length ≤ 140737488355328 ∧ ∀ j x, l[j]? = some x → (x.k.s.size ≤ 140737488355328 ∧ x.v.s.size ≤ 140737488355328) ∧ ∃ b off, a = some ⟨b, off, none⟩ ∧ ∀ i u, x.cells[i]? = some u → w.cell? ⟨b, off + j * 7 + i, none⟩ = some u
theorem RdO.below {w w' : World} {v : Value} {l : List OpV} {N : Nat} (h : RdO w v l) (hb : Below N w w') (hN : w.heap.size ≤ N) : RdO w' v l := by
  obtain ⟨a, c, rfl, h1, h2, h20, h3⟩ := h
  refine ⟨a, c, rfl, h1, h2, h20, fun j s hj => ?_⟩
  obtain ⟨hs, b, off, rfl, hc⟩ := h3 j s hj
  exact ⟨hs, b, off, rfl, fun i u hu => (hb.cell (Nat.lt_of_lt_of_le (World.block_lt_of_cell? w _ (hc i u hu)) hN)).trans (hc i u hu)⟩
/-- What 'great' says: when it says no, there are few steps. -/
def GreatO (w : World) (nl : Nat) (e : Ending) (w' : World) : Prop := ∃ g : Bool, e = .returned (.bool g) ∧ (g = false → nl ≤ 600) ∧ Below w.heap.size w w'
set_option maxHeartbeats 2000000 in
set_option maxRecDepth 20000 in
theorem dgreat_calls (lv : Value) (l : List OpV) (w : World) (hl : RdO w lv l) :
    Calls Try.prog 41 #[lv] w (GreatO w l.length) := by
  obtain ⟨a, c, rfl, hlc, hcm, h47, hcell⟩ := hl
  have HC := Lib.hid hcell
  have hcm' : c ≤ 9223372036854775807 := hcm
  obtain ⟨n2, hn2⟩ : ∃ n, n = l.length := ⟨_, rfl⟩
  have E2 := Lib.hid hn2
  rw [← hn2] at hlc h47 ⊢
  clear hcell hcm hn2
  go_enter Try.func41, Try.ntmps41
  go_wp2_with fail
  go_loopw [3, 8] (fun n i wr => ∃ k m : Nat, k ≤ n2 ∧ i = .int .i64 k ∧ n = .int .i64 m ∧ m ≤ 50 * k ∧ Hid (Below w.heap.size w wr)) (fun _ i _ => n2 - (intOf i).toNat)
  case atStart => exact ⟨0, 0, by omega, rfl, rfl, by omega, Lib.hid (Below.refl _ _)⟩
  case round =>
    obtain ⟨k, m, hk, rfl, rfl, hm2, hB⟩ := hrel
    by_cases hlt : k < n2
    · have hkl : k < l.length := by rw [← E2.out]; exact hlt
      obtain ⟨x, hx⟩ : ∃ x, l[k]? = some x := ⟨_, List.getElem?_eq_getElem hkl⟩
      obtain ⟨⟨hs1, hs2⟩, b, off, rfl, hcl⟩ := HC.out k x hx
      have hc := fun i u hu => (hB.out.cell (World.block_lt_of_cell? w _ (hcl i u hu))).trans (hcl i u hu)
      have u0 := hc 0 _ rfl
      have u1 := hc 1 _ rfl
      have u2 := hc 2 _ rfl
      have u3 := hc 3 _ rfl
      have u4 := hc 4 _ rfl
      have u5 := hc 5 _ rfl
      have u6 := hc 6 _ rfl
      rw [Nat.add_zero] at u0
      clear hc hcl hx hkl
      go_wp2_with fail
      go_roundw
      case rel => exact ⟨k + 1, m + min (x.k.s.size + x.v.s.size) 1000 / 20, by omega, by go_num, by congr 1; omega, by omega, Lib.hid (hB.out.alloc hB.out.size _)⟩
      case measure => simp [intOf]; omega
    · obtain rfl : k = n2 := by omega
      go_wp2_with fail
      all_goals
        go_ret
        refine ⟨_, rfl, fun h => ?_, hB.out⟩
        first | (simp at h; omega) | (simp at h)
end Go.Proofs.Ytmjfmfelbmbniaa

/- Values: the type's name, whether two are one. -/
namespace Go.Proofs.Ytmjfmfelbmbniaa
open Go.RowKit Go.Maps HK
set_option linter.unusedVariables false
set_option linter.unusedSimpArgs false
def typeS (k : Int) : ByteArray := if k = 0 then ⟨#[110, 105, 108]⟩ else if k = 1 then ⟨#[98, 111, 111, 108, 101, 97, 110]⟩ else if k = 2 then ⟨#[110, 117, 109, 98, 101, 114]⟩ else if k = 3 then ⟨#[115, 116, 114, 105, 110, 103]⟩
  else if k = 4 then ⟨#[116, 97, 98, 108, 101]⟩ else if k = 5 then ⟨#[102, 117, 110, 99, 116, 105, 111, 110]⟩ else if k = 6 then ⟨#[102, 117, 110, 99, 116, 105, 111, 110]⟩ else if k = 7 then ⟨#[116, 104, 114, 101, 97, 100]⟩ else ⟨#[]⟩
set_option maxHeartbeats 2000000 in
set_option maxRecDepth 20000 in
theorem type_calls (x : Val) (w : World) : Calls Try.prog 57 #[x.v] w fun e w' => e = .returned (.string (typeS x.k)) ∧ Below w.heap.size w w' := by
  obtain ⟨k, n, s⟩ := x
  by_cases hm : k = 0 ∨ k = 1 ∨ k = 2 ∨ k = 3 ∨ k = 4 ∨ k = 5 ∨ k = 6 ∨ k = 7
  · rcases hm with rfl | rfl | rfl | rfl | rfl | rfl | rfl | rfl
    all_goals
      go_enter Try.func57, Try.ntmps57
      go_wp2_with fail
      go_ret
      exact ⟨rfl, (Below.refl _ _).alloc (Nat.le_refl _) _⟩
  · have he : typeS k = ⟨#[]⟩ := by
      unfold typeS
      repeat rw [if_neg (by omega)]
    have g0 : (k == 0) = false := by simp; omega
    have g1 : (k == 1) = false := by simp; omega
    have g2 : (k == 2) = false := by simp; omega
    have g3 : (k == 3) = false := by simp; omega
    have g4 : (k == 4) = false := by simp; omega
    have g5 : (k == 5) = false := by simp; omega
    have g6 : (k == 6) = false := by simp; omega
    have g7 : (k == 7) = false := by simp; omega
    rw [he]
    clear he hm
    go_enter Try.func57, Try.ntmps57
    go_wp2_with fail
    go_ret
    exact ⟨rfl, (Below.refl _ _).alloc (Nat.le_refl _) _⟩
def rawV (x y : Val) : Bool := !x.strange && (x.k == y.k) && decide (x.own = y.own)
/-- Two values of one kind, or not: as the comparison of their cells. -/
theorem val_ne {a b : Val} (h : a ≠ b) : (a.k == b.k) = false ∨ a.k = b.k ∧ ((a.n == b.n) = false ∨ a.n = b.n ∧ (a.s.toList == b.s.toList) = false) := by
  obtain ⟨a1, a2, a3⟩ := a
  obtain ⟨b1, b2, b3⟩ := b
  by_cases e1 : a1 = b1
  · subst e1
    by_cases e2 : a2 = b2
    · subst e2
      exact .inr ⟨rfl, .inr ⟨rfl, str_ne _ _ (fun e => h (by have e' : a3 = b3 := e; rw [e']))⟩⟩
    · exact .inr ⟨rfl, .inl (by simp [e2])⟩
  · exact .inl (by simp [e1])
set_option maxHeartbeats 2000000 in
set_option maxRecDepth 20000 in
theorem raw_calls (x y : Val) (w : World) : Calls Try.prog 58 #[x.v, y.v] w fun e w' => e = .returned (.bool (rawV x y)) ∧ Below w.heap.size w w' := by
  have HS := Lib.hid (fun (W : World) => strange_calls x W)
  have HX := Lib.hid (fun (W : World) => own_calls x W)
  have HY := Lib.hid (fun (W : World) => own_calls y W)
  have hbx : Blk ((w.alloc (.cells #[.int .i64 x.k, .int .i64 x.n, .string x.s] 57)).alloc (.cells #[.int .i64 y.k, .int .i64 y.n, .string y.s] 57)) w.heap.size 57 [.int .i64 x.k, .int .i64 x.n, .string x.s] := (Blk.new w [.int .i64 x.k, .int .i64 x.n, .string x.s] 57).alloc _
  have hby : Blk ((w.alloc (.cells #[.int .i64 x.k, .int .i64 x.n, .string x.s] 57)).alloc (.cells #[.int .i64 y.k, .int .i64 y.n, .string y.s] 57)) (w.heap.size + 1) 57 [.int .i64 y.k, .int .i64 y.n, .string y.s] := by
    simpa using Blk.new (w.alloc (.cells #[.int .i64 x.k, .int .i64 x.n, .string x.s] 57)) [.int .i64 y.k, .int .i64 y.n, .string y.s] 57
  have hb0 : Below w.heap.size w ((w.alloc (.cells #[.int .i64 x.k, .int .i64 x.n, .string x.s] 57)).alloc (.cells #[.int .i64 y.k, .int .i64 y.n, .string y.s] 57)) := by (repeat (first | exact Below.refl _ _ | (refine Below.alloc ?_ (by simp <;> omega) _)))
  have HBX := Lib.hid hbx
  have HBY := Lib.hid hby
  have HB0 := Lib.hid hb0
  have HR : Hid (rawV x y = (!x.strange && (x.k == y.k) && decide (x.own = y.own))) := Lib.hid rfl
  clear hbx hby hb0
  obtain ⟨x1, x2, x3⟩ := x
  obtain ⟨y1, y2, y3⟩ := y
  generalize hw1 : ((w.alloc (.cells #[.int .i64 x1, .int .i64 x2, .string x3] 57)).alloc (.cells #[.int .i64 y1, .int .i64 y2, .string y3] 57)) = w1 at *
  have HW1 := Lib.hid hw1
  have q0 : ∀ W, Below w1.heap.size w1 W → W.cell? ⟨w.heap.size, 0, none⟩ = some (.int .i64 x1) := fun W hW => (HBX.out.of (hW.block _ HBX.out.lt)).cell 0 _ rfl
  have q1 : ∀ W, Below w1.heap.size w1 W → W.cell? ⟨w.heap.size, 1, none⟩ = some (.int .i64 x2) := fun W hW => (HBX.out.of (hW.block _ HBX.out.lt)).cell 1 _ rfl
  have q2 : ∀ W, Below w1.heap.size w1 W → W.cell? ⟨w.heap.size, 2, none⟩ = some (.string x3) := fun W hW => (HBX.out.of (hW.block _ HBX.out.lt)).cell 2 _ rfl
  have p0 : ∀ W, Below w1.heap.size w1 W → W.cell? ⟨w.heap.size + 1, 0, none⟩ = some (.int .i64 y1) := fun W hW => (HBY.out.of (hW.block _ HBY.out.lt)).cell 0 _ rfl
  have p1 : ∀ W, Below w1.heap.size w1 W → W.cell? ⟨w.heap.size + 1, 1, none⟩ = some (.int .i64 y2) := fun W hW => (HBY.out.of (hW.block _ HBY.out.lt)).cell 1 _ rfl
  have p2 : ∀ W, Below w1.heap.size w1 W → W.cell? ⟨w.heap.size + 1, 2, none⟩ = some (.string y3) := fun W hW => (HBY.out.of (hW.block _ HBY.out.lt)).cell 2 _ rfl
  clear hw1
  cases hst : Val.strange ⟨x1, x2, x3⟩ with
  | true =>
    have hr : rawV ⟨x1, x2, x3⟩ ⟨y1, y2, y3⟩ = false := by rw [HR.out, hst]; rfl
    rw [hr]
    rw [hst] at HS
    clear hst hr
    go_enter Try.func58, Try.ntmps58
    go_upto_region 1 with (fail)
    rw [HW1.out]
    refine QB.region w1 (by kernel_rfl) (by kernel_rfl) (Below.refl _ _) ?_
    refine QB.step (v := ?_) (by rfl) ?_ ?_
    rotate_left
    · (intro W hW; (try dsimp only at hW); go_simp; try with_reducible rfl)
    try simp only [Act.put, List.setIfInBounds_toArray, List.set_cons_zero, List.set_cons_succ]
    refine QB.step (v := ?_) (by rfl) ?_ ?_
    rotate_left
    · (intro W hW; (try dsimp only at hW); go_simp; with_reducible refine (HS.out _).mono ?_; rintro e w'' ⟨rfl, hb⟩; refine ⟨?_, hW.trans (hb.mono hW.size)⟩; with_reducible rfl)
    try simp only [Act.put, List.setIfInBounds_toArray, List.set_cons_zero, List.set_cons_succ]
    refine QB.step (v := ?_) (by rfl) ?_ ?_
    rotate_left
    · (intro W hW; (try dsimp only at hW); go_simp; try with_reducible rfl)
    try simp only [Act.put, List.setIfInBounds_toArray, List.set_cons_zero, List.set_cons_succ]
    refine QB.step (v := ?_) (by rfl) ?_ ?_
    rotate_left
    · (intro W hW; (try dsimp only at hW); go_simp; try with_reducible rfl)
    try simp only [Act.put, List.setIfInBounds_toArray, List.set_cons_zero, List.set_cons_succ]
    refine QB.skip (by rfl) ?_
    try simp only [Act.put, List.setIfInBounds_toArray, List.set_cons_zero, List.set_cons_succ]
    refine QB.skip (by rfl) ?_
    try simp only [Act.put, List.setIfInBounds_toArray, List.set_cons_zero, List.set_cons_succ]
    refine QB.skip (by rfl) ?_
    try simp only [Act.put, List.setIfInBounds_toArray, List.set_cons_zero, List.set_cons_succ]
    refine QB.skip (by rfl) ?_
    try simp only [Act.put, List.setIfInBounds_toArray, List.set_cons_zero, List.set_cons_succ]
    refine QB.skip (by rfl) ?_
    try simp only [Act.put, List.setIfInBounds_toArray, List.set_cons_zero, List.set_cons_succ]
    refine QB.step (v := ?_) (by rfl) ?_ ?_
    rotate_left
    · (intro W hW; (try dsimp only at hW); go_simp; try with_reducible rfl)
    try simp only [Act.put, List.setIfInBounds_toArray, List.set_cons_zero, List.set_cons_succ]
    refine QB.step (v := ?_) (by rfl) ?_ ?_
    rotate_left
    · (intro W hW; (try dsimp only at hW); go_simp; try with_reducible rfl)
    try simp only [Act.put, List.setIfInBounds_toArray, List.set_cons_zero, List.set_cons_succ]
    refine QB.skip (by rfl) ?_
    try simp only [Act.put, List.setIfInBounds_toArray, List.set_cons_zero, List.set_cons_succ]
    refine QB.skip (by rfl) ?_
    try simp only [Act.put, List.setIfInBounds_toArray, List.set_cons_zero, List.set_cons_succ]
    refine QB.skip (by rfl) ?_
    try simp only [Act.put, List.setIfInBounds_toArray, List.set_cons_zero, List.set_cons_succ]
    refine QB.skip (by rfl) ?_
    try simp only [Act.put, List.setIfInBounds_toArray, List.set_cons_zero, List.set_cons_succ]
    refine QB.skip (by rfl) ?_
    try simp only [Act.put, List.setIfInBounds_toArray, List.set_cons_zero, List.set_cons_succ]
    refine QB.step (v := ?_) (by rfl) ?_ ?_
    rotate_left
    · (intro W hW; (try dsimp only at hW); go_simp; try with_reducible rfl)
    try simp only [Act.put, List.setIfInBounds_toArray, List.set_cons_zero, List.set_cons_succ]
    refine QB.step (v := ?_) (by rfl) ?_ ?_
    rotate_left
    · (intro W hW; (try dsimp only at hW); go_simp; try with_reducible rfl)
    try simp only [Act.put, List.setIfInBounds_toArray, List.set_cons_zero, List.set_cons_succ]
    refine wpQuiet_nil ?_
    intro w2 hb2
    go_wp2_with fail
    go_ret
    exact ⟨rfl, HB0.out.trans (hb2.mono HB0.out.size)⟩
  | false =>
    rw [hst] at HS
    by_cases hk : x1 = y1
    · subst hk
      have hr : rawV ⟨x1, x2, x3⟩ ⟨x1, y2, y3⟩ = decide (Val.own ⟨x1, x2, x3⟩ = Val.own ⟨x1, y2, y3⟩) := by rw [HR.out, hst]; simp
      rw [hr]
      clear hst hr HR
      generalize Val.own ⟨x1, x2, x3⟩ = a at *
      generalize Val.own ⟨x1, y2, y3⟩ = b at *
      by_cases hab : a = b
      · subst hab
        rw [decide_eq_true rfl]
        obtain ⟨a1, a2, a3⟩ := a
        go_enter Try.func58, Try.ntmps58
        go_upto_region 1 with (fail)
        rw [HW1.out]
        refine QB.region w1 (by kernel_rfl) (by kernel_rfl) (Below.refl _ _) ?_
        refine QB.step (v := ?_) (by rfl) ?_ ?_
        rotate_left
        · (intro W hW; (try dsimp only at hW); go_simp; try with_reducible rfl)
        try simp only [Act.put, List.setIfInBounds_toArray, List.set_cons_zero, List.set_cons_succ]
        refine QB.step (v := ?_) (by rfl) ?_ ?_
        rotate_left
        · (intro W hW; (try dsimp only at hW); go_simp; with_reducible refine (HS.out _).mono ?_; rintro e w'' ⟨rfl, hb⟩; refine ⟨?_, hW.trans (hb.mono hW.size)⟩; with_reducible rfl)
        try simp only [Act.put, List.setIfInBounds_toArray, List.set_cons_zero, List.set_cons_succ]
        refine QB.step (v := ?_) (by rfl) ?_ ?_
        rotate_left
        · (intro W hW; (try dsimp only at hW); go_simp; try with_reducible rfl)
        try simp only [Act.put, List.setIfInBounds_toArray, List.set_cons_zero, List.set_cons_succ]
        refine QB.step (v := ?_) (by rfl) ?_ ?_
        rotate_left
        · (intro W hW; (try dsimp only at hW); go_simp; try with_reducible rfl)
        try simp only [Act.put, List.setIfInBounds_toArray, List.set_cons_zero, List.set_cons_succ]
        refine QB.step (v := ?_) (by rfl) ?_ ?_
        rotate_left
        · (intro W hW; (try dsimp only at hW); go_simp; try with_reducible rfl)
        try simp only [Act.put, List.setIfInBounds_toArray, List.set_cons_zero, List.set_cons_succ]
        refine QB.step (v := ?_) (by rfl) ?_ ?_
        rotate_left
        · (intro W hW; (try dsimp only at hW); go_simp; try with_reducible rfl)
        try simp only [Act.put, List.setIfInBounds_toArray, List.set_cons_zero, List.set_cons_succ]
        refine QB.step (v := ?_) (by rfl) ?_ ?_
        rotate_left
        · (intro W hW; (try dsimp only at hW); go_simp; try with_reducible rfl)
        try simp only [Act.put, List.setIfInBounds_toArray, List.set_cons_zero, List.set_cons_succ]
        refine QB.step (v := ?_) (by rfl) ?_ ?_
        rotate_left
        · (intro W hW; (try dsimp only at hW); go_simp; try with_reducible rfl)
        try simp only [Act.put, List.setIfInBounds_toArray, List.set_cons_zero, List.set_cons_succ]
        refine QB.step (v := ?_) (by rfl) ?_ ?_
        rotate_left
        · (intro W hW; (try dsimp only at hW); go_simp; try with_reducible rfl)
        try simp only [Act.put, List.setIfInBounds_toArray, List.set_cons_zero, List.set_cons_succ]
        refine QB.step (v := ?_) (by rfl) ?_ ?_
        rotate_left
        · (intro W hW; (try dsimp only at hW); go_simp; try with_reducible rfl)
        try simp only [Act.put, List.setIfInBounds_toArray, List.set_cons_zero, List.set_cons_succ]
        refine QB.step (v := ?_) (by rfl) ?_ ?_
        rotate_left
        · (intro W hW; (try dsimp only at hW); go_simp; try with_reducible rfl)
        try simp only [Act.put, List.setIfInBounds_toArray, List.set_cons_zero, List.set_cons_succ]
        refine QB.step (v := ?_) (by rfl) ?_ ?_
        rotate_left
        · (intro W hW; (try dsimp only at hW); go_simp; try with_reducible rfl)
        try simp only [Act.put, List.setIfInBounds_toArray, List.set_cons_zero, List.set_cons_succ]
        refine QB.step (v := ?_) (by rfl) ?_ ?_
        rotate_left
        · (intro W hW; (try dsimp only at hW); go_simp; with_reducible refine (HX.out _).mono ?_; rintro e w'' ⟨rfl, hb⟩; refine ⟨?_, hW.trans (hb.mono hW.size)⟩; with_reducible rfl)
        try simp only [Act.put, List.setIfInBounds_toArray, List.set_cons_zero, List.set_cons_succ]
        refine QB.step (v := ?_) (by rfl) ?_ ?_
        rotate_left
        · (intro W hW; (try dsimp only at hW); go_simp; try with_reducible rfl)
        try simp only [Act.put, List.setIfInBounds_toArray, List.set_cons_zero, List.set_cons_succ]
        refine QB.step (v := ?_) (by rfl) ?_ ?_
        rotate_left
        · (intro W hW; (try dsimp only at hW); go_simp; with_reducible refine (HY.out _).mono ?_; rintro e w'' ⟨rfl, hb⟩; refine ⟨?_, hW.trans (hb.mono hW.size)⟩; with_reducible rfl)
        try simp only [Act.put, List.setIfInBounds_toArray, List.set_cons_zero, List.set_cons_succ]
        refine QB.step (v := ?_) (by rfl) ?_ ?_
        rotate_left
        · (intro W hW; (try dsimp only at hW); go_simp; try with_reducible rfl)
        try simp only [Act.put, List.setIfInBounds_toArray, List.set_cons_zero, List.set_cons_succ]
        refine QB.step (v := ?_) (by rfl) ?_ ?_
        rotate_left
        · (intro W hW; (try dsimp only at hW); go_simp; try with_reducible rfl)
        try simp only [Act.put, List.setIfInBounds_toArray, List.set_cons_zero, List.set_cons_succ]
        refine QB.step (v := ?_) (by rfl) ?_ ?_
        rotate_left
        · (intro W hW; (try dsimp only at hW); go_simp; try with_reducible rfl)
        try simp only [Act.put, List.setIfInBounds_toArray, List.set_cons_zero, List.set_cons_succ]
        refine wpQuiet_nil ?_
        intro w2 hb2
        go_wp2_with fail
        go_ret
        exact ⟨rfl, HB0.out.trans (hb2.mono HB0.out.size)⟩
      · rw [decide_eq_false hab]
        have h3 := val_ne hab
        clear hab
        obtain ⟨a1, a2, a3⟩ := a
        obtain ⟨b1, b2, b3⟩ := b
        dsimp only at h3
        rcases h3 with h3 | ⟨rfl, h3 | ⟨rfl, h3⟩⟩
        all_goals
          go_enter Try.func58, Try.ntmps58
          go_upto_region 1 with (fail)
          rw [HW1.out]
          refine QB.region w1 (by kernel_rfl) (by kernel_rfl) (Below.refl _ _) ?_
          refine QB.step (v := ?_) (by rfl) ?_ ?_
          rotate_left
          · (intro W hW; (try dsimp only at hW); go_simp; try with_reducible rfl)
          try simp only [Act.put, List.setIfInBounds_toArray, List.set_cons_zero, List.set_cons_succ]
          refine QB.step (v := ?_) (by rfl) ?_ ?_
          rotate_left
          · (intro W hW; (try dsimp only at hW); go_simp; with_reducible refine (HS.out _).mono ?_; rintro e w'' ⟨rfl, hb⟩; refine ⟨?_, hW.trans (hb.mono hW.size)⟩; with_reducible rfl)
          try simp only [Act.put, List.setIfInBounds_toArray, List.set_cons_zero, List.set_cons_succ]
          refine QB.step (v := ?_) (by rfl) ?_ ?_
          rotate_left
          · (intro W hW; (try dsimp only at hW); go_simp; try with_reducible rfl)
          try simp only [Act.put, List.setIfInBounds_toArray, List.set_cons_zero, List.set_cons_succ]
          refine QB.step (v := ?_) (by rfl) ?_ ?_
          rotate_left
          · (intro W hW; (try dsimp only at hW); go_simp; try with_reducible rfl)
          try simp only [Act.put, List.setIfInBounds_toArray, List.set_cons_zero, List.set_cons_succ]
          refine QB.step (v := ?_) (by rfl) ?_ ?_
          rotate_left
          · (intro W hW; (try dsimp only at hW); go_simp; try with_reducible rfl)
          try simp only [Act.put, List.setIfInBounds_toArray, List.set_cons_zero, List.set_cons_succ]
          refine QB.step (v := ?_) (by rfl) ?_ ?_
          rotate_left
          · (intro W hW; (try dsimp only at hW); go_simp; try with_reducible rfl)
          try simp only [Act.put, List.setIfInBounds_toArray, List.set_cons_zero, List.set_cons_succ]
          refine QB.step (v := ?_) (by rfl) ?_ ?_
          rotate_left
          · (intro W hW; (try dsimp only at hW); go_simp; try with_reducible rfl)
          try simp only [Act.put, List.setIfInBounds_toArray, List.set_cons_zero, List.set_cons_succ]
          refine QB.step (v := ?_) (by rfl) ?_ ?_
          rotate_left
          · (intro W hW; (try dsimp only at hW); go_simp; try with_reducible rfl)
          try simp only [Act.put, List.setIfInBounds_toArray, List.set_cons_zero, List.set_cons_succ]
          refine QB.step (v := ?_) (by rfl) ?_ ?_
          rotate_left
          · (intro W hW; (try dsimp only at hW); go_simp; try with_reducible rfl)
          try simp only [Act.put, List.setIfInBounds_toArray, List.set_cons_zero, List.set_cons_succ]
          refine QB.step (v := ?_) (by rfl) ?_ ?_
          rotate_left
          · (intro W hW; (try dsimp only at hW); go_simp; try with_reducible rfl)
          try simp only [Act.put, List.setIfInBounds_toArray, List.set_cons_zero, List.set_cons_succ]
          refine QB.step (v := ?_) (by rfl) ?_ ?_
          rotate_left
          · (intro W hW; (try dsimp only at hW); go_simp; try with_reducible rfl)
          try simp only [Act.put, List.setIfInBounds_toArray, List.set_cons_zero, List.set_cons_succ]
          refine QB.step (v := ?_) (by rfl) ?_ ?_
          rotate_left
          · (intro W hW; (try dsimp only at hW); go_simp; try with_reducible rfl)
          try simp only [Act.put, List.setIfInBounds_toArray, List.set_cons_zero, List.set_cons_succ]
          refine QB.step (v := ?_) (by rfl) ?_ ?_
          rotate_left
          · (intro W hW; (try dsimp only at hW); go_simp; with_reducible refine (HX.out _).mono ?_; rintro e w'' ⟨rfl, hb⟩; refine ⟨?_, hW.trans (hb.mono hW.size)⟩; with_reducible rfl)
          try simp only [Act.put, List.setIfInBounds_toArray, List.set_cons_zero, List.set_cons_succ]
          refine QB.step (v := ?_) (by rfl) ?_ ?_
          rotate_left
          · (intro W hW; (try dsimp only at hW); go_simp; try with_reducible rfl)
          try simp only [Act.put, List.setIfInBounds_toArray, List.set_cons_zero, List.set_cons_succ]
          refine QB.step (v := ?_) (by rfl) ?_ ?_
          rotate_left
          · (intro W hW; (try dsimp only at hW); go_simp; with_reducible refine (HY.out _).mono ?_; rintro e w'' ⟨rfl, hb⟩; refine ⟨?_, hW.trans (hb.mono hW.size)⟩; with_reducible rfl)
          try simp only [Act.put, List.setIfInBounds_toArray, List.set_cons_zero, List.set_cons_succ]
          refine QB.step (v := ?_) (by rfl) ?_ ?_
          rotate_left
          · (intro W hW; (try dsimp only at hW); go_simp; try with_reducible rfl)
          try simp only [Act.put, List.setIfInBounds_toArray, List.set_cons_zero, List.set_cons_succ]
          refine QB.step (v := ?_) (by rfl) ?_ ?_
          rotate_left
          · (intro W hW; (try dsimp only at hW); go_simp; try with_reducible rfl)
          try simp only [Act.put, List.setIfInBounds_toArray, List.set_cons_zero, List.set_cons_succ]
          refine QB.step (v := ?_) (by rfl) ?_ ?_
          rotate_left
          · (intro W hW; (try dsimp only at hW); go_simp; try with_reducible rfl)
          try simp only [Act.put, List.setIfInBounds_toArray, List.set_cons_zero, List.set_cons_succ]
          refine wpQuiet_nil ?_
          intro w2 hb2
          go_wp2_with fail
          go_ret
          exact ⟨rfl, HB0.out.trans (hb2.mono HB0.out.size)⟩
    · have hr : rawV ⟨x1, x2, x3⟩ ⟨y1, y2, y3⟩ = false := by rw [HR.out]; simp [hk]
      have hk' : (x1 == y1) = false := by simp [hk]
      rw [hr]
      clear hst hr HR hk
      go_enter Try.func58, Try.ntmps58
      go_upto_region 1 with (fail)
      rw [HW1.out]
      refine QB.region w1 (by kernel_rfl) (by kernel_rfl) (Below.refl _ _) ?_
      refine QB.step (v := ?_) (by rfl) ?_ ?_
      rotate_left
      · (intro W hW; (try dsimp only at hW); go_simp; try with_reducible rfl)
      try simp only [Act.put, List.setIfInBounds_toArray, List.set_cons_zero, List.set_cons_succ]
      refine QB.step (v := ?_) (by rfl) ?_ ?_
      rotate_left
      · (intro W hW; (try dsimp only at hW); go_simp; with_reducible refine (HS.out _).mono ?_; rintro e w'' ⟨rfl, hb⟩; refine ⟨?_, hW.trans (hb.mono hW.size)⟩; with_reducible rfl)
      try simp only [Act.put, List.setIfInBounds_toArray, List.set_cons_zero, List.set_cons_succ]
      refine QB.step (v := ?_) (by rfl) ?_ ?_
      rotate_left
      · (intro W hW; (try dsimp only at hW); go_simp; try with_reducible rfl)
      try simp only [Act.put, List.setIfInBounds_toArray, List.set_cons_zero, List.set_cons_succ]
      refine QB.step (v := ?_) (by rfl) ?_ ?_
      rotate_left
      · (intro W hW; (try dsimp only at hW); go_simp; try with_reducible rfl)
      try simp only [Act.put, List.setIfInBounds_toArray, List.set_cons_zero, List.set_cons_succ]
      refine QB.step (v := ?_) (by rfl) ?_ ?_
      rotate_left
      · (intro W hW; (try dsimp only at hW); go_simp; try with_reducible rfl)
      try simp only [Act.put, List.setIfInBounds_toArray, List.set_cons_zero, List.set_cons_succ]
      refine QB.step (v := ?_) (by rfl) ?_ ?_
      rotate_left
      · (intro W hW; (try dsimp only at hW); go_simp; try with_reducible rfl)
      try simp only [Act.put, List.setIfInBounds_toArray, List.set_cons_zero, List.set_cons_succ]
      refine QB.step (v := ?_) (by rfl) ?_ ?_
      rotate_left
      · (intro W hW; (try dsimp only at hW); go_simp; try with_reducible rfl)
      try simp only [Act.put, List.setIfInBounds_toArray, List.set_cons_zero, List.set_cons_succ]
      refine QB.step (v := ?_) (by rfl) ?_ ?_
      rotate_left
      · (intro W hW; (try dsimp only at hW); go_simp; try with_reducible rfl)
      try simp only [Act.put, List.setIfInBounds_toArray, List.set_cons_zero, List.set_cons_succ]
      refine QB.step (v := ?_) (by rfl) ?_ ?_
      rotate_left
      · (intro W hW; (try dsimp only at hW); go_simp; try with_reducible rfl)
      try simp only [Act.put, List.setIfInBounds_toArray, List.set_cons_zero, List.set_cons_succ]
      refine QB.step (v := ?_) (by rfl) ?_ ?_
      rotate_left
      · (intro W hW; (try dsimp only at hW); go_simp; try with_reducible rfl)
      try simp only [Act.put, List.setIfInBounds_toArray, List.set_cons_zero, List.set_cons_succ]
      refine QB.step (v := ?_) (by rfl) ?_ ?_
      rotate_left
      · (intro W hW; (try dsimp only at hW); go_simp; try with_reducible rfl)
      try simp only [Act.put, List.setIfInBounds_toArray, List.set_cons_zero, List.set_cons_succ]
      refine QB.skip (by rfl) ?_
      try simp only [Act.put, List.setIfInBounds_toArray, List.set_cons_zero, List.set_cons_succ]
      refine QB.skip (by rfl) ?_
      try simp only [Act.put, List.setIfInBounds_toArray, List.set_cons_zero, List.set_cons_succ]
      refine QB.skip (by rfl) ?_
      try simp only [Act.put, List.setIfInBounds_toArray, List.set_cons_zero, List.set_cons_succ]
      refine QB.skip (by rfl) ?_
      try simp only [Act.put, List.setIfInBounds_toArray, List.set_cons_zero, List.set_cons_succ]
      refine QB.skip (by rfl) ?_
      try simp only [Act.put, List.setIfInBounds_toArray, List.set_cons_zero, List.set_cons_succ]
      refine QB.step (v := ?_) (by rfl) ?_ ?_
      rotate_left
      · (intro W hW; (try dsimp only at hW); go_simp; try with_reducible rfl)
      try simp only [Act.put, List.setIfInBounds_toArray, List.set_cons_zero, List.set_cons_succ]
      refine QB.step (v := ?_) (by rfl) ?_ ?_
      rotate_left
      · (intro W hW; (try dsimp only at hW); go_simp; try with_reducible rfl)
      try simp only [Act.put, List.setIfInBounds_toArray, List.set_cons_zero, List.set_cons_succ]
      refine wpQuiet_nil ?_
      intro w2 hb2
      go_wp2_with fail
      go_ret
      exact ⟨rfl, HB0.out.trans (hb2.mono HB0.out.size)⟩
end Go.Proofs.Ytmjfmfelbmbniaa

/- The reference's values: strange, Own, Key. -/
namespace Go.Proofs.Ytmjfmfelbmbniaa
open Go.RowKit Go.Maps HK
set_option linter.unusedVariables false
set_option linter.unusedSimpArgs false
end Go.Proofs.Ytmjfmfelbmbniaa

/- Layer 13: the document's example. -/
namespace Go.Proofs.Ytmjfmfelbmbniaa
open Go.RowKit Go.Maps HK ShM
set_option linter.unusedVariables false
set_option linter.unusedSimpArgs false
theorem Dct.setTo {Z : Nat → Prop} {w0 w : World} {d N : Nat} {L L' : Pairs} {B : List (Nat × Val)} (h : Dct Z w0 w d L N B) (hZ : ∀ b, Z b → b < w.heap.size) (hN : N < 131072) (x v : Val) (hx : x.s.size ≤ maxLen) {M : Nat} (hM : N + 1 = M) (f : Bool) (k : Int) (hL : setL L x v = L') (hf : setF L x v = f) (hk : keyE x = k) :
    Calls Try.prog 44 #[.pointer (some ⟨d, 0, none⟩), x.v, v.v] w fun e w' => e = .returned (.tuple #[.bool f, .int .i64 k]) ∧ Dct Z w0 w' d L' M B := by
  with_reducible refine (h.set hZ hN x v hx).mono ?_
  rintro e w' ⟨rfl, h1, _⟩
  exact ⟨by rw [hf, hk], by rw [← hL, ← hM]; exact h1⟩
theorem Dct.nextTo {Z : Nat → Prop} {w0 w : World} {d N : Nat} {L : Pairs} {B : List (Nat × Val)} (h : Dct Z w0 w d L N B) (x : Val) (hx : x.s.size ≤ maxLen) (y z : Val) (k : Int) (hn : nextM L x = ((y, z), k)) :
    Calls Try.prog 49 #[.pointer (some ⟨d, 0, none⟩), x.v] w fun e w' => e = .returned (.tuple #[y.v, z.v, .int .i64 k]) ∧ Below w.heap.size w w' := by
  with_reducible refine (h.next x hx).mono ?_
  rintro e w' ⟨rfl, h1⟩
  exact ⟨by rw [hn], h1⟩
theorem Dct.dropTo {Z : Nat → Prop} {w0 w : World} {d N : Nat} {L L' : Pairs} {B : List (Nat × Val)} (h : Dct Z w0 w d L N B) (hZ : ∀ b, Z b → b < w.heap.size) (x : Val) (hx : x.s.size ≤ maxLen) (f : Bool) (hf : hasK L x = f) (hL : (if hasK L x then dropA L (keyV x) else L) = L') :
    Calls Try.prog 45 #[.pointer (some ⟨d, 0, none⟩), x.v] w fun e w' => e = .returned (.bool f) ∧ Dct Z w0 w' d L' N B := by
  with_reducible refine (h.drop hZ x hx).mono ?_
  rintro e w' ⟨rfl, h1, _⟩
  exact ⟨by rw [hf], by rw [← hL]; exact h1⟩
theorem Dct.alloc {Z : Nat → Prop} {w0 w : World} {d N : Nat} {L : Pairs} {B : List (Nat × Val)} (h : Dct Z w0 w d L N B) (v : Val) (b : Nat) (hb : b = w.heap.size) : Dct Z w0 (w.alloc (.cells #[.int .i64 v.k, .int .i64 v.n, .string v.s] 57)) d L N ((b, v) :: B) := by
  subst hb
  exact h.push ((Below.refl _ _).alloc (Nat.le_refl _) _) (Blk.new w v.cells 57) (Nat.le_refl _)
set_option maxHeartbeats 8000000 in
set_option maxRecDepth 20000 in
theorem dalive_calls (w : World) : Calls Try.prog 40 #[] w fun e w' => e = .returned (.bool true) ∧ Below w.heap.size w w' := by
  have HS := Lib.hid (fun (s : ByteArray) (W : World) => ofStr_calls s W)
  have HI := Lib.hid (fun (n : Int) (W : World) => ofInt_calls n W)
  have HNW := Lib.hid (Dct.new (fun _ => False) w w (Below.refl _ _) (fun b h => h.elim) [] (fun p hp => by cases hp))
  have S1 := Lib.hid (fun (W : World) (d : Nat) (B : List (Nat × Val)) (h : Dct (fun _ => False) w W d [] 0 B) => h.setTo (L' := [(⟨3, 0, ⟨#[97]⟩⟩, ⟨2, 1, ⟨#[]⟩⟩)]) (M := 1) (fun b h => h.elim) (by decide) ⟨3, 0, ⟨#[97]⟩⟩ ⟨2, 1, ⟨#[]⟩⟩ (by decide) (by decide) true 0 (by decide) (by decide) (by decide))
  have S2 := Lib.hid (fun (W : World) (d : Nat) (B : List (Nat × Val)) (h : Dct (fun _ => False) w W d [(⟨3, 0, ⟨#[97]⟩⟩, ⟨2, 1, ⟨#[]⟩⟩)] 1 B) => h.setTo (L' := [(⟨3, 0, ⟨#[97]⟩⟩, ⟨2, 1, ⟨#[]⟩⟩), (⟨3, 0, ⟨#[98]⟩⟩, ⟨2, 1, ⟨#[]⟩⟩)]) (M := 2) (fun b h => h.elim) (by decide) ⟨3, 0, ⟨#[98]⟩⟩ ⟨2, 1, ⟨#[]⟩⟩ (by decide) (by decide) true 0 (by decide) (by decide) (by decide))
  have S3 := Lib.hid (fun (W : World) (d : Nat) (B : List (Nat × Val)) (h : Dct (fun _ => False) w W d [(⟨3, 0, ⟨#[97]⟩⟩, ⟨2, 1, ⟨#[]⟩⟩), (⟨3, 0, ⟨#[98]⟩⟩, ⟨2, 1, ⟨#[]⟩⟩)] 2 B) => h.setTo (L' := [(⟨3, 0, ⟨#[97]⟩⟩, ⟨0, 0, ⟨#[]⟩⟩), (⟨3, 0, ⟨#[98]⟩⟩, ⟨2, 1, ⟨#[]⟩⟩)]) (M := 3) (fun b h => h.elim) (by decide) ⟨3, 0, ⟨#[97]⟩⟩ ⟨0, 0, ⟨#[]⟩⟩ (by decide) (by decide) false 0 (by decide) (by decide) (by decide))
  have N1 := Lib.hid (fun (W : World) (d : Nat) (B : List (Nat × Val)) (h : Dct (fun _ => False) w W d [(⟨3, 0, ⟨#[97]⟩⟩, ⟨0, 0, ⟨#[]⟩⟩), (⟨3, 0, ⟨#[98]⟩⟩, ⟨2, 1, ⟨#[]⟩⟩)] 3 B) => h.nextTo ⟨0, 0, ⟨#[]⟩⟩ (by decide) ⟨3, 0, ⟨#[98]⟩⟩ ⟨2, 1, ⟨#[]⟩⟩ 0 (by decide))
  have N2 := Lib.hid (fun (W : World) (d : Nat) (B : List (Nat × Val)) (h : Dct (fun _ => False) w W d [(⟨3, 0, ⟨#[97]⟩⟩, ⟨0, 0, ⟨#[]⟩⟩), (⟨3, 0, ⟨#[98]⟩⟩, ⟨2, 1, ⟨#[]⟩⟩)] 3 B) => h.nextTo ⟨3, 0, ⟨#[97]⟩⟩ (by decide) ⟨3, 0, ⟨#[98]⟩⟩ ⟨2, 1, ⟨#[]⟩⟩ 0 (by decide))
  have S4 := Lib.hid (fun (W : World) (d : Nat) (B : List (Nat × Val)) (h : Dct (fun _ => False) w W d [(⟨3, 0, ⟨#[97]⟩⟩, ⟨0, 0, ⟨#[]⟩⟩), (⟨3, 0, ⟨#[98]⟩⟩, ⟨2, 1, ⟨#[]⟩⟩)] 3 B) => h.setTo (L' := [(⟨3, 0, ⟨#[97]⟩⟩, ⟨2, 1, ⟨#[]⟩⟩), (⟨3, 0, ⟨#[98]⟩⟩, ⟨2, 1, ⟨#[]⟩⟩)]) (M := 4) (fun b h => h.elim) (by decide) ⟨3, 0, ⟨#[97]⟩⟩ ⟨2, 1, ⟨#[]⟩⟩ (by decide) (by decide) false 0 (by decide) (by decide) (by decide))
  have N3 := Lib.hid (fun (W : World) (d : Nat) (B : List (Nat × Val)) (h : Dct (fun _ => False) w W d [(⟨3, 0, ⟨#[97]⟩⟩, ⟨2, 1, ⟨#[]⟩⟩), (⟨3, 0, ⟨#[98]⟩⟩, ⟨2, 1, ⟨#[]⟩⟩)] 4 B) => h.nextTo ⟨0, 0, ⟨#[]⟩⟩ (by decide) ⟨3, 0, ⟨#[97]⟩⟩ ⟨2, 1, ⟨#[]⟩⟩ 0 (by decide))
  have D1 := Lib.hid (fun (W : World) (d : Nat) (B : List (Nat × Val)) (h : Dct (fun _ => False) w W d [(⟨3, 0, ⟨#[97]⟩⟩, ⟨2, 1, ⟨#[]⟩⟩), (⟨3, 0, ⟨#[98]⟩⟩, ⟨2, 1, ⟨#[]⟩⟩)] 4 B) => h.dropTo (L' := [(⟨3, 0, ⟨#[98]⟩⟩, ⟨2, 1, ⟨#[]⟩⟩)]) (fun b h => h.elim) ⟨3, 0, ⟨#[97]⟩⟩ (by decide) true (by decide) (by decide))
  have S5 := Lib.hid (fun (W : World) (d : Nat) (B : List (Nat × Val)) (h : Dct (fun _ => False) w W d [(⟨3, 0, ⟨#[98]⟩⟩, ⟨2, 1, ⟨#[]⟩⟩)] 4 B) => h.setTo (L' := [(⟨3, 0, ⟨#[98]⟩⟩, ⟨2, 1, ⟨#[]⟩⟩), (⟨3, 0, ⟨#[97]⟩⟩, ⟨2, 1, ⟨#[]⟩⟩)]) (M := 5) (fun b h => h.elim) (by decide) ⟨3, 0, ⟨#[97]⟩⟩ ⟨2, 1, ⟨#[]⟩⟩ (by decide) (by decide) true 0 (by decide) (by decide) (by decide))
  have N4 := Lib.hid (fun (W : World) (d : Nat) (B : List (Nat × Val)) (h : Dct (fun _ => False) w W d [(⟨3, 0, ⟨#[98]⟩⟩, ⟨2, 1, ⟨#[]⟩⟩), (⟨3, 0, ⟨#[97]⟩⟩, ⟨2, 1, ⟨#[]⟩⟩)] 5 B) => h.nextTo ⟨3, 0, ⟨#[98]⟩⟩ (by decide) ⟨3, 0, ⟨#[97]⟩⟩ ⟨2, 1, ⟨#[]⟩⟩ 0 (by decide))
  have HNIL := Lib.hid (fun (W : World) => dset_nil ⟨3, 0, ⟨#[97]⟩⟩ ⟨2, 1, ⟨#[]⟩⟩ W)
  have HLEN := Lib.hid (fun (W : World) (d : Nat) (B : List (Nat × Val)) (h : Dct (fun _ => False) w W d [(⟨3, 0, ⟨#[98]⟩⟩, ⟨2, 1, ⟨#[]⟩⟩), (⟨3, 0, ⟨#[97]⟩⟩, ⟨2, 1, ⟨#[]⟩⟩)] 5 B) => h.len (by decide))
  go_enter Try.func40, Try.ntmps40
  go_upto_region 4 with (go_at_call 42; (with_reducible refine HNW.out.mono ?_); rintro e w1 ⟨d, rfl, h1, hb1⟩; have HD := Lib.hid h1; have HB := Lib.hid hb1; clear h1 hb1)
  go_upto_region 5 with (first | (go_at_call 54; (with_reducible refine (HS.out _ _).mono ?_); rintro e w2 ⟨rfl, hb⟩; have HD := Lib.hid (HD.out.below hb); clear hb) | (go_at_call 50; (with_reducible refine (HI.out _ _).mono ?_); rintro e w3 ⟨rfl, hb⟩; have HD := Lib.hid (HD.out.below hb); clear hb))
  have HD := Lib.hid ((((((HD.out).alloc ⟨3, 0, ⟨#[97]⟩⟩ w3.heap.size (by simp))).alloc ⟨3, 0, ⟨#[98]⟩⟩ (w3.heap.size + 1) (by simp))).alloc ⟨2, 1, ⟨#[]⟩⟩ (w3.heap.size + 1 + 1) (by simp))
  have hbx := HD.out.box (b := w3.heap.size) (v := ⟨3, 0, ⟨#[97]⟩⟩) (by simp)
  have ca0 := hbx.cell 0 _ rfl
  have ca1 := hbx.cell 1 _ rfl
  have ca2 := hbx.cell 2 _ rfl
  clear hbx
  have hbx := HD.out.box (b := (w3.heap.size + 1 + 1)) (v := ⟨2, 1, ⟨#[]⟩⟩) (by simp)
  have co0 := hbx.cell 0 _ rfl
  have co1 := hbx.cell 1 _ rfl
  have co2 := hbx.cell 2 _ rfl
  clear hbx
  go_upto_region 6 with (go_at_call 44; (with_reducible refine (S1.out _ _ _ HD.out).mono ?_); rintro e w4 ⟨rfl, h⟩; have HD := Lib.hid h; clear h)
  clear ca0 ca1 ca2 co0 co1 co2
  have hbx := HD.out.box (b := (w3.heap.size + 1)) (v := ⟨3, 0, ⟨#[98]⟩⟩) (by simp)
  have cb0 := hbx.cell 0 _ rfl
  have cb1 := hbx.cell 1 _ rfl
  have cb2 := hbx.cell 2 _ rfl
  clear hbx
  have hbx := HD.out.box (b := (w3.heap.size + 1 + 1)) (v := ⟨2, 1, ⟨#[]⟩⟩) (by simp)
  have co0 := hbx.cell 0 _ rfl
  have co1 := hbx.cell 1 _ rfl
  have co2 := hbx.cell 2 _ rfl
  clear hbx
  go_upto_region 7 with (go_at_call 44; (with_reducible refine (S2.out _ _ _ HD.out).mono ?_); rintro e w5 ⟨rfl, h⟩; have HD := Lib.hid h; clear h)
  clear cb0 cb1 cb2 co0 co1 co2
  have hbx := HD.out.box (b := w3.heap.size) (v := ⟨3, 0, ⟨#[97]⟩⟩) (by simp)
  have ca0 := hbx.cell 0 _ rfl
  have ca1 := hbx.cell 1 _ rfl
  have ca2 := hbx.cell 2 _ rfl
  clear hbx
  go_upto_region 8 with (go_at_call 44; (with_reducible refine (S3.out _ _ _ HD.out).mono ?_); rintro e w6 ⟨rfl, h⟩; have HD := Lib.hid h; clear h)
  clear ca0 ca1 ca2
  go_upto_region 9 with (go_at_call 49; (with_reducible refine (N1.out _ _ _ HD.out).mono ?_); rintro e w7 ⟨rfl, hb⟩; have HD := Lib.hid (HD.out.below hb); clear hb)
  have HD := Lib.hid ((((HD.out).alloc ⟨3, 0, ⟨#[98]⟩⟩ w7.heap.size (by simp))).alloc ⟨2, 1, ⟨#[]⟩⟩ (w7.heap.size + 1) (by simp))
  have hbx := HD.out.box (b := w3.heap.size) (v := ⟨3, 0, ⟨#[97]⟩⟩) (by simp)
  have ca0 := hbx.cell 0 _ rfl
  have ca1 := hbx.cell 1 _ rfl
  have ca2 := hbx.cell 2 _ rfl
  clear hbx
  go_upto_region 10 with (go_at_call 49; (with_reducible refine (N2.out _ _ _ HD.out).mono ?_); rintro e w8 ⟨rfl, hb⟩; have HD := Lib.hid (HD.out.below hb); clear hb)
  clear ca0 ca1 ca2
  have HD := Lib.hid ((((HD.out).alloc ⟨3, 0, ⟨#[98]⟩⟩ w8.heap.size (by simp))).alloc ⟨2, 1, ⟨#[]⟩⟩ (w8.heap.size + 1) (by simp))
  have hbx := HD.out.box (b := w3.heap.size) (v := ⟨3, 0, ⟨#[97]⟩⟩) (by simp)
  have ca0 := hbx.cell 0 _ rfl
  have ca1 := hbx.cell 1 _ rfl
  have ca2 := hbx.cell 2 _ rfl
  clear hbx
  have hbx := HD.out.box (b := (w3.heap.size + 1 + 1)) (v := ⟨2, 1, ⟨#[]⟩⟩) (by simp)
  have co0 := hbx.cell 0 _ rfl
  have co1 := hbx.cell 1 _ rfl
  have co2 := hbx.cell 2 _ rfl
  clear hbx
  go_upto_region 11 with (go_at_call 44; (with_reducible refine (S4.out _ _ _ HD.out).mono ?_); rintro e w9 ⟨rfl, h⟩; have HD := Lib.hid h; clear h)
  clear ca0 ca1 ca2 co0 co1 co2
  go_upto_region 12 with (go_at_call 49; (with_reducible refine (N3.out _ _ _ HD.out).mono ?_); rintro e w10 ⟨rfl, hb⟩; have HD := Lib.hid (HD.out.below hb); clear hb)
  have HD := Lib.hid ((((HD.out).alloc ⟨3, 0, ⟨#[97]⟩⟩ w10.heap.size (by simp))).alloc ⟨2, 1, ⟨#[]⟩⟩ (w10.heap.size + 1) (by simp))
  have hbx := HD.out.box (b := w3.heap.size) (v := ⟨3, 0, ⟨#[97]⟩⟩) (by simp)
  have ca0 := hbx.cell 0 _ rfl
  have ca1 := hbx.cell 1 _ rfl
  have ca2 := hbx.cell 2 _ rfl
  clear hbx
  go_upto_region 13 with (go_at_call 45; (with_reducible refine (D1.out _ _ _ HD.out).mono ?_); rintro e w11 ⟨rfl, h⟩; have HD := Lib.hid h; clear h)
  clear ca0 ca1 ca2
  have hbx := HD.out.box (b := w3.heap.size) (v := ⟨3, 0, ⟨#[97]⟩⟩) (by simp)
  have ca0 := hbx.cell 0 _ rfl
  have ca1 := hbx.cell 1 _ rfl
  have ca2 := hbx.cell 2 _ rfl
  clear hbx
  have hbx := HD.out.box (b := (w3.heap.size + 1 + 1)) (v := ⟨2, 1, ⟨#[]⟩⟩) (by simp)
  have co0 := hbx.cell 0 _ rfl
  have co1 := hbx.cell 1 _ rfl
  have co2 := hbx.cell 2 _ rfl
  clear hbx
  go_upto_region 14 with (go_at_call 44; (with_reducible refine (S5.out _ _ _ HD.out).mono ?_); rintro e w12 ⟨rfl, h⟩; have HD := Lib.hid h; clear h)
  clear ca0 ca1 ca2 co0 co1 co2
  have hbx := HD.out.box (b := (w3.heap.size + 1)) (v := ⟨3, 0, ⟨#[98]⟩⟩) (by simp)
  have cb0 := hbx.cell 0 _ rfl
  have cb1 := hbx.cell 1 _ rfl
  have cb2 := hbx.cell 2 _ rfl
  clear hbx
  go_upto_region 15 with (go_at_call 49; (with_reducible refine (N4.out _ _ _ HD.out).mono ?_); rintro e w13 ⟨rfl, hb⟩; have HD := Lib.hid (HD.out.below hb); clear hb)
  clear cb0 cb1 cb2
  have HD := Lib.hid ((((HD.out).alloc ⟨3, 0, ⟨#[97]⟩⟩ w13.heap.size (by simp))).alloc ⟨2, 1, ⟨#[]⟩⟩ (w13.heap.size + 1) (by simp))
  have hbx := HD.out.box (b := w3.heap.size) (v := ⟨3, 0, ⟨#[97]⟩⟩) (by simp)
  have ca0 := hbx.cell 0 _ rfl
  have ca1 := hbx.cell 1 _ rfl
  have ca2 := hbx.cell 2 _ rfl
  clear hbx
  have hbx := HD.out.box (b := (w3.heap.size + 1 + 1)) (v := ⟨2, 1, ⟨#[]⟩⟩) (by simp)
  have co0 := hbx.cell 0 _ rfl
  have co1 := hbx.cell 1 _ rfl
  have co2 := hbx.cell 2 _ rfl
  clear hbx
  go_upto_region 17 with (go_at_call 44; (with_reducible refine (HNIL.out _).mono ?_); rintro e w14 ⟨rfl, hb⟩; have HD := Lib.hid (HD.out.below hb); clear hb)
  clear ca0 ca1 ca2 co0 co1 co2
  have hbx := HD.out.box (b := w7.heap.size) (v := ⟨3, 0, ⟨#[98]⟩⟩) (by simp)
  have cx0 := hbx.cell 0 _ rfl
  have cx1 := hbx.cell 1 _ rfl
  have cx2 := hbx.cell 2 _ rfl
  clear hbx
  have hbx := HD.out.box (b := (w3.heap.size + 1)) (v := ⟨3, 0, ⟨#[98]⟩⟩) (by simp)
  have cb0 := hbx.cell 0 _ rfl
  have cb1 := hbx.cell 1 _ rfl
  have cb2 := hbx.cell 2 _ rfl
  clear hbx
  have hbx := HD.out.box (b := w8.heap.size) (v := ⟨3, 0, ⟨#[98]⟩⟩) (by simp)
  have cy0 := hbx.cell 0 _ rfl
  have cy1 := hbx.cell 1 _ rfl
  have cy2 := hbx.cell 2 _ rfl
  clear hbx
  have hbx := HD.out.box (b := w10.heap.size) (v := ⟨3, 0, ⟨#[97]⟩⟩) (by simp)
  have cz0 := hbx.cell 0 _ rfl
  have cz1 := hbx.cell 1 _ rfl
  have cz2 := hbx.cell 2 _ rfl
  clear hbx
  have hbx := HD.out.box (b := w3.heap.size) (v := ⟨3, 0, ⟨#[97]⟩⟩) (by simp)
  have ca0 := hbx.cell 0 _ rfl
  have ca1 := hbx.cell 1 _ rfl
  have ca2 := hbx.cell 2 _ rfl
  clear hbx
  have hbx := HD.out.box (b := w13.heap.size) (v := ⟨3, 0, ⟨#[97]⟩⟩) (by simp)
  have cu0 := hbx.cell 0 _ rfl
  have cu1 := hbx.cell 1 _ rfl
  have cu2 := hbx.cell 2 _ rfl
  clear hbx
  go_wp2_with (go_at_call 46; (with_reducible refine (HLEN.out _ _ _ HD.out).mono ?_); rintro e w15 ⟨rfl, hb⟩; have HD := Lib.hid (HD.out.below hb); clear hb)
  go_ret
  exact ⟨rfl, HD.out.bel⟩
end Go.Proofs.Ytmjfmfelbmbniaa

/- Layer 13: steps behind one another. -/
namespace Go.Proofs.Ytmjfmfelbmbniaa
open Go.RowKit Go.Maps HK ShM
set_option linter.unusedVariables false
set_option linter.unusedSimpArgs false
def flatO (l : List OpV) : List Value := l.flatMap OpV.cells
theorem flatO_len (l : List OpV) : (flatO l).length = l.length * 7 := by
  induction l with
  | nil => rfl
  | cons x r ih => rw [flatO, List.flatMap_cons, List.length_append]; rw [flatO] at ih; rw [ih]; simp only [List.length_cons, List.length_nil]; omega
theorem flatO_at : ∀ {l : List OpV} {i c : Nat} {x : OpV}, l[i]? = some x → c < 7 → (flatO l)[i * 7 + c]? = x.cells[c]?
  | [], i, c, x, h, hc => by simp at h
  | y :: r, 0, c, x, h, hc => by
    simp at h; subst h
    rw [flatO, List.flatMap_cons, Nat.zero_mul, Nat.zero_add, List.getElem?_append_left (by simpa using hc)]
  | y :: r, i + 1, c, x, h, hc => by
    rw [flatO, List.flatMap_cons, List.getElem?_append_right (by show 7 ≤ _; omega), show (i + 1) * 7 + c - (OpV.cells y).length = i * 7 + c by show (i + 1) * 7 + c - 7 = _; omega]
    exact flatO_at (l := r) (by simpa using h) hc
theorem flatO_get {l : List OpV} {j : Nat} {u : Value} (h : (flatO l)[j]? = some u) : ∃ x, l[j / 7]? = some x ∧ x.cells[j % 7]? = some u := by
  have hlt := (List.getElem?_eq_some_iff.1 h).1
  rw [flatO_len] at hlt
  have h1 : j / 7 < l.length := by omega
  refine ⟨l[j / 7], List.getElem?_eq_getElem h1, ?_⟩
  have := flatO_at (l := l) (i := j / 7) (c := j % 7) (List.getElem?_eq_getElem h1) (by omega)
  rw [show j / 7 * 7 + j % 7 = j by omega, h] at this
  exact this.symm
theorem flatO_oneCell (l : List OpV) : ∀ u ∈ flatO l, u.oneCell' = true := by
  intro u hu
  obtain ⟨x, _, hx⟩ := List.mem_flatMap.1 hu
  simp at hx
  rcases hx with rfl | rfl | rfl | rfl | rfl | rfl | rfl <;> rfl
theorem RdO.of_row {w : World} {base : Nat} {v : Value} {l : List OpV} (h : w.ownsRow base 59 7 v l.length (flatO l)) (hl : l.length ≤ 140737488355328) (hz : ∀ x ∈ l, x.k.s.size ≤ 140737488355328 ∧ x.v.s.size ≤ 140737488355328) : RdO w v l := by
  rcases h.2 with ⟨rfl, hn⟩ | ⟨g, cap, cur, rfl, _, hg, hc, hm, _⟩
  · obtain rfl : l = [] := List.eq_nil_of_length_eq_zero hn
    exact ⟨none, 0, rfl, Nat.le_refl _, Nat.zero_le _, Nat.zero_le _, fun j x hj => by simp at hj⟩
  · refine ⟨some ⟨g, 0, none⟩, cap, rfl, hc, hm, hl, fun j x hj => ⟨hz x (List.mem_of_getElem? hj), g, 0, rfl, fun i u hu => ?_⟩⟩
    have hi : i < 7 := (List.getElem?_eq_some_iff.1 hu).1
    have := h.cells (g := g) rfl (j * 7 + i) u (by rw [flatO_at hj hi, hu])
    rw [addr0] at this
    rwa [Nat.zero_add]
theorem info59 : (Try.prog.info? 59).map (fun i => (i.zero, i.size, i.bytes)) = some (some (.agg #[.int .i64 0, .int .i64 0, .int .i64 0, .string ByteArray.empty, .int .i64 0, .int .i64 0, .string ByteArray.empty]), 7, 72) := by kernel_rfl
theorem run_append_ops (w : World) (base b : Nat) (x : OpV) (hb : w.ownsRow base 59 7 (.slice (some ⟨b, 0, none⟩) 1 1) 1 x.cells) (hx : x.k.s.size ≤ 140737488355328 ∧ x.v.s.size ≤ 140737488355328) (lv : Value) (l : List OpV) (hl : RdO w lv l) (h72 : l.length * 72 ≤ 140737488351232) (hbase : base ≤ w.heap.size) :
    ∃ v' w', (Builtin.append_ #[51, 51] 51 #[.slice (some ⟨b, 0, none⟩) 1 1, lv]).run Try.prog w = .ok v' w' ∧ RdO w' v' (x :: l) ∧ Below base w w' := by
  obtain ⟨i0, hi, hz0, hz1, hz2⟩ := info_parts info59
  obtain ⟨a, c, rfl, h3, h4, h5, h6⟩ := hl
  have hm : maxLen = 9223372036854775807 := rfl
  match a with
  | none =>
    have hl0 : l = [] := by
      cases l with
      | nil => rfl
      | cons x r => obtain ⟨_, b, off, e, _⟩ := h6 0 x rfl; cases e
    subst hl0
    have hsrc : Src Try.prog i0.size 51 (.slice none 0 c) 0 [] w := Src.ofNil w Try.underlying51 c
    have := run_append_nothing (P := Try.prog) w 51 51 51 59 i0 Try.underlying51 hi (some ⟨b, 0, none⟩) 1 1 (Nat.le_refl _) _ hsrc
    refine ⟨_, _, this, RdO.of_row (l := [x]) (by simpa [flatO] using hb) (by simp) (by simpa using hx), Below.refl _ _⟩
  | some ad =>
    obtain ⟨v', w', r1, r2, r3, r4, r5⟩ := run_append_own_at (P := Try.prog) w base 51 51 59 i0 _ 7 72 Try.underlying51 hi hz0 hz1 hz2 rfl (by decide) (.slice (some ⟨b, 0, none⟩) 1 1) 1 _ hb ad l.length c (flatO l) (flatO_len l) (fun j u hu => by
      obtain ⟨y, hy, hc⟩ := flatO_get hu
      obtain ⟨_, b, off, e, hc1⟩ := h6 (j / 7) y hy
      cases e
      have e2 : (⟨b, off, none⟩ : Addr).add j = ⟨b, off + j, none⟩ := by unfold Addr.add; split <;> simp_all
      rw [e2]
      have := hc1 (j % 7) u hc
      rwa [show off + j / 7 * 7 + j % 7 = off + j by omega] at this) (flatO_oneCell l) (by omega) (by omega) hbase
    refine ⟨v', w', r1, RdO.of_row (base := base) (by rw [show flatO (x :: l) = x.cells ++ flatO l from rfl, List.length_cons, Nat.add_comm]; exact r2) (by simp; omega) (fun y hy => ?_), (Below.refl _ _).grown r3 hbase (fun q hq => (hb.lt q hq).1)⟩
    rcases List.mem_cons.1 hy with rfl | hy
    · exact hx
    · obtain ⟨j, hj⟩ := List.getElem?_of_mem hy
      exact (h6 j y hj).1
end Go.Proofs.Ytmjfmfelbmbniaa

/- Layer 13: what was set last is there. Plain lemmas. -/
namespace Go.Proofs.Ytmjfmfelbmbniaa
open Go.RowKit Go.Maps HK ShM
set_option linter.unusedVariables false
set_option linter.unusedSimpArgs false
theorem getA_set (L : Pairs) (k v k' : Val) : getA (setA L k v) k' = if k = k' then (getA L k).map (fun _ => v) else getA L k' := by
  unfold getA setA
  induction L with
  | nil => by_cases h : k = k' <;> simp [h]
  | cons x r ih =>
    rw [List.map_cons, List.find?_cons]
    by_cases h1 : x.1 = k
    · rw [if_pos h1]
      by_cases h2 : k = k'
      · subst h2
        simp [h1]
      · rw [if_neg h2] at ih ⊢
        have h3 : ¬ x.1 = k' := fun e => h2 (h1.symm.trans e)
        rw [List.find?_cons]
        simp only [h2, h3, decide_false]
        exact ih
    · rw [if_neg h1]
      by_cases h4 : x.1 = k'
      · have h2 : ¬ k = k' := fun e => h1 (h4.trans e.symm)
        rw [if_neg h2, List.find?_cons]
        simp [h4]
      · rw [List.find?_cons]
        simp only [h4, decide_false]
        rw [ih]
        by_cases h2 : k = k'
        · rw [if_pos h2, if_pos h2]
          simp only [h1, decide_false]
        · rw [if_neg h2, if_neg h2, List.find?_cons]
          simp only [h4, decide_false]
theorem getA_snoc (L : Pairs) (k v k' : Val) (h : getA L k = none) : getA (L ++ [(k, v)]) k' = if k = k' then some v else getA L k' := by
  unfold getA at h ⊢
  rw [List.find?_append]
  have h' : L.find? (fun x => decide (x.1 = k)) = none := by simpa using h
  by_cases h2 : k = k'
  · subst h2
    rw [if_pos rfl, h']
    simp
  · rw [if_neg h2]
    simp [h2]
theorem own_zero {x : Val} (h : x.own.k = 0) : x.own = Val.nil := by
  obtain ⟨k, n, s⟩ := x
  unfold Val.own at h ⊢
  dsimp only at h ⊢
  split
  · rename_i h1; rw [if_pos h1] at h; cases h
  · rename_i h1
    rw [if_neg h1] at h
    split
    · rename_i h2; rw [if_pos h2] at h; cases h
    · rename_i h2
      rw [if_neg h2] at h
      split
      · rename_i h3; rw [if_pos h3] at h; dsimp only at h; omega
      · rfl
theorem getA_setL {L : Pairs} {x v k : Val} (hb : x.bad = false) : (getA (setL L x v) k).getD Val.nil = if keyV x = k then v.own else (getA L k).getD Val.nil := by
  unfold setL
  rw [hb, if_neg (by decide)]
  cases h : getA L (keyV x) with
  | some u =>
    dsimp only
    rw [getA_set, h]
    by_cases h2 : keyV x = k
    · rw [if_pos h2, if_pos h2]; rfl
    · rw [if_neg h2, if_neg h2]
  | none =>
    dsimp only
    by_cases h0 : v.own.k = 0
    · rw [if_pos h0]
      by_cases h2 : keyV x = k
      · rw [if_pos h2, ← h2, h, own_zero h0]; rfl
      · rw [if_neg h2]
    · rw [if_neg h0, getA_snoc _ _ _ _ h]
      by_cases h2 : keyV x = k
      · rw [if_pos h2, if_pos h2]; rfl
      · rw [if_neg h2, if_neg h2]
theorem keyV_own {x : Val} (hb : x.bad = false) : keyV x = x.own := by unfold keyV; rw [hb]; rfl
theorem own_k {x : Val} (hb : x.bad = false) : x.own.k = x.k := by
  obtain ⟨k, n, s⟩ := x
  simp only [Val.bad, Val.strange, Bool.or_eq_false_iff, decide_eq_false_iff_not] at hb
  obtain ⟨h0, h1, h2⟩ := hb
  have h7 : k = 1 ∨ k = 2 ∨ k = 3 ∨ k = 4 ∨ k = 5 ∨ k = 6 ∨ k = 7 := by omega
  rcases h7 with rfl | rfl | rfl | rfl | rfl | rfl | rfl <;> simp [Val.own]
theorem bad_own {x : Val} (hb : x.bad = true) : x.own = Val.nil := by
  obtain ⟨k, n, s⟩ := x
  simp only [Val.bad, Val.strange, Bool.or_eq_true, decide_eq_true_eq] at hb
  unfold Val.own
  dsimp only
  rw [if_neg (by omega), if_neg (by omega), if_neg (by omega)]
/-- What Raw says of a key that is none too bad: it is one key with the other one. -/
theorem raw_key {x y : Val} (hx : x.bad = false) : rawV x y = (!y.bad && decide (keyV x = keyV y)) := by
  have hs : x.strange = false := by
    unfold Val.bad at hx
    cases h : x.strange with
    | false => rfl
    | true => rw [h] at hx; simp at hx
  unfold rawV
  rw [hs]
  cases hy : y.bad with
  | true =>
    have h1 : ¬ (x.own = y.own) := fun e => by
      rw [bad_own hy] at e
      have h2 := own_k hx
      rw [e] at h2
      unfold Val.bad at hx
      rw [← h2] at hx
      simp at hx
    simp [h1]
  | false =>
    rw [keyV_own hx, keyV_own hy]
    by_cases h : x.own = y.own
    · have h2 : x.k = y.k := by rw [← own_k hx, ← own_k hy, h]
      simp [h, h2]
    · simp [h]
theorem keep_step {L : Pairs} {x v y w : Val} (hx : x.bad = false) (h : getV L y = w) : getV (setL L x v) y = if rawV x y then v.own else w := by
  rw [raw_key hx]
  unfold getV at h ⊢
  cases hy : y.bad with
  | true => rw [hy] at h; simpa using h
  | false =>
    rw [hy, if_neg (by decide)] at h
    rw [if_neg (by decide), getA_setL hx, h]
    by_cases h2 : keyV x = keyV y <;> simp [h2]
theorem keep_bad {L : Pairs} {x v : Val} (hx : x.bad = true) : setL L x v = L := by unfold setL; rw [hx]; rfl
theorem Dct.store {Z : Nat → Prop} {w0 w : World} {d N : Nat} {L : Pairs} {B B' : List (Nat × Val)} (h : Dct Z w0 w d L N B) {b : Nat} {v : Val} (hp : (b, v) ∈ B) (v' : Val) (h0 : w0.heap.size ≤ b) (hB : ∀ p ∈ B', p = (b, v') ∨ p ∈ B ∧ p.1 ≠ b) :
    Dct Z w0 (((w.setCell ⟨b, 0, none⟩ (.int .i64 v'.k)).setCell ⟨b, 1, none⟩ (.int .i64 v'.n)).setCell ⟨b, 2, none⟩ (.string v'.s)) d L N B' := by
  have h1 : Chg (fun c => c = b) w (w.setCell ⟨b, 0, none⟩ (.int .i64 v'.k)) := (Chg.refl (fun c => c = b) w).setCell (a := ⟨b, 0, none⟩) (fun _ => rfl) _
  have h2 : Chg (fun c => c = b) w ((w.setCell ⟨b, 0, none⟩ (.int .i64 v'.k)).setCell ⟨b, 1, none⟩ (.int .i64 v'.n)) := h1.setCell (a := ⟨b, 1, none⟩) (fun _ => rfl) _
  have h3 : Chg (fun c => c = b) w (((w.setCell ⟨b, 0, none⟩ (.int .i64 v'.k)).setCell ⟨b, 1, none⟩ (.int .i64 v'.n)).setCell ⟨b, 2, none⟩ (.string v'.s)) := h2.setCell (a := ⟨b, 2, none⟩) (fun _ => rfl) _
  exact h.rebox hp h3 ((((h.box hp).setSame 0 _).setSame 1 _).setSame 2 _) h0 hB
theorem own_size {x : Val} (hx : x.s.size ≤ maxLen) : x.own.s.size ≤ maxLen := by
  unfold Val.own
  repeat' split
  all_goals first | exact hx | exact Nat.zero_le _
theorem toList_some (s : ByteArray) (h : s.data.toList.isEmpty = false) : s.toList.isEmpty = false := by rw [ByteArray.toList_eq]; exact h
theorem toList_none (s : ByteArray) (h : s.data.toList.isEmpty = true) : s.toList.isEmpty = true := by rw [ByteArray.toList_eq]; exact h
theorem getV_own (L : Pairs) (y : Val) : getV L y.own = getV L y := by
  unfold getV
  cases hy : y.bad with
  | true => rw [bad_own hy]; rfl
  | false =>
    have h1 := own_key y hy
    rw [h1.2]
    have h2 := keyV_key y hy
    rw [← keyV_own hy, h2.1]
end Go.Proofs.Ytmjfmfelbmbniaa

/- Layer 13: Next meets what lives. Rows of values; plain lemmas. -/
namespace Go.Proofs.Ytmjfmfelbmbniaa
open Go.RowKit Go.Maps HK ShM
set_option linter.unusedVariables false
set_option linter.unusedSimpArgs false
def flatV (l : List Val) : List Value := l.flatMap Val.cells
theorem flatV_len (l : List Val) : (flatV l).length = l.length * 3 := by
  induction l with
  | nil => rfl
  | cons x r ih => rw [flatV, List.flatMap_cons, List.length_append]; rw [flatV] at ih; rw [ih]; simp only [List.length_cons, List.length_nil]; omega
theorem flatV_at : ∀ {l : List Val} {i c : Nat} {x : Val}, l[i]? = some x → c < 3 → (flatV l)[i * 3 + c]? = x.cells[c]?
  | [], i, c, x, h, hc => by simp at h
  | y :: r, 0, c, x, h, hc => by
    simp at h; subst h
    rw [flatV, List.flatMap_cons, Nat.zero_mul, Nat.zero_add, List.getElem?_append_left (by simpa using hc)]
  | y :: r, i + 1, c, x, h, hc => by
    rw [flatV, List.flatMap_cons, List.getElem?_append_right (by show 3 ≤ _; omega), show (i + 1) * 3 + c - (Val.cells y).length = i * 3 + c by show (i + 1) * 3 + c - 3 = _; omega]
    exact flatV_at (l := r) (by simpa using h) hc
/-- A row of values of the call's own. -/
def OwnV (w : World) (base : Nat) (v : Value) (l : List Val) : Prop := w.ownsRow base 57 3 v l.length (flatV l)
section
variable {w w' : World} {base : Nat} {v : Value} {l : List Val}
theorem OwnV.nil (w : World) (base : Nat) : OwnV w base (.slice none 0 0) [] := World.ownsRow_nil _ _ _ _
theorem OwnV.of (h : OwnV w base v l) (hb : ∀ g, v.ownBlock = some g → w'.heap[g]? = w.heap[g]?) : OwnV w' base v l := ownsRow_of h hb
theorem OwnV.below (h : OwnV w base v l) (hb : Below w.heap.size w w') : OwnV w' base v l := h.of (fun g hg => hb.block g (ownsRow.lt' h hg))
where ownsRow.lt' {w : World} {base : Nat} {v : Value} {l : List Val} (h : OwnV w base v l) {g : Nat} (hg : v.ownBlock = some g) : g < w.heap.size := (World.ownsRow.lt h g hg).2
theorem OwnV.lt (h : OwnV w base v l) : ∀ g, v.ownBlock = some g → base ≤ g ∧ g < w.heap.size := World.ownsRow.lt h
theorem OwnV.form (h : OwnV w base v l) : ∃ a c, v = .slice a l.length c ∧ l.length ≤ c ∧ c ≤ 9223372036854775807 := by
  rcases h.2 with ⟨he, hn⟩ | ⟨g, cap, cur, he, _, _, hc, hm, _⟩
  · exact ⟨none, 0, by rw [hn]; exact he, by omega, by omega⟩
  · exact ⟨_, cap, he, hc, hm⟩
theorem OwnV.cell (h : OwnV w base v l) {j : Nat} {x : Val} (hx : l[j]? = some x) : ∃ g cap, v = .slice (some ⟨g, 0, none⟩) l.length cap ∧ ∀ c u, c < 3 → x.cells[c]? = some u → w.cell? ⟨g, j * 3 + c, none⟩ = some u := by
  rcases h.2 with ⟨_, hn⟩ | ⟨g, cap, cur, rfl, _, _, hc, hm, _⟩
  · rw [List.eq_nil_of_length_eq_zero hn] at hx; simp at hx
  · refine ⟨g, cap, rfl, fun c u hc3 hu => ?_⟩
    have := World.ownsRow.cells h (g := g) rfl (j * 3 + c) u (by rw [flatV_at hx hc3, hu])
    rwa [addr0] at this
end
theorem info57 : (Try.prog.info? 57).map (fun i => (i.zero, i.size, i.bytes)) = some (some (.agg #[.int .i64 0, .int .i64 0, .string ByteArray.empty]), 3, 32) := by kernel_rfl
theorem flatV_oneCell (l : List Val) : ∀ u ∈ flatV l, u.oneCell' = true := by
  intro u hu
  obtain ⟨x, _, hx⟩ := List.mem_flatMap.1 hu
  simp at hx
  rcases hx with rfl | rfl | rfl <;> rfl
/-- A value behind a row of values. -/
theorem run_append_val (w : World) (base b : Nat) (x : Val) (hb : Blk w b 57 x.cells) (v : Value) (l : List Val) (ho : OwnV w base v l) (hl : l.length ≤ 1048576) (hbase : base ≤ w.heap.size) :
    ∃ v' w', (Builtin.append_ #[55, 55] 55 #[v, .slice (some ⟨b, 0, none⟩) 1 1]).run Try.prog w = .ok v' w' ∧ OwnV w' base v' (l ++ [x]) ∧ w.grownBy w' v.ownBlock ∧ (v'.ownBlock = v.ownBlock ∨ v'.ownBlock = some w.heap.size) := by
  obtain ⟨i0, hi, hz0, hz1, hz2⟩ := info_parts info57
  obtain ⟨v', w', r1, r2, r3, r4, r5⟩ := run_append_own_at (P := Try.prog) w base 55 55 57 i0 _ 3 32 Try.underlying55 hi hz0 hz1 hz2 rfl (by decide) v l.length _ ho ⟨b, 0, none⟩ 1 1 x.cells rfl (fun j u hu => by rw [addr0]; exact hb.cell j u hu)
    (fun u hu => flatV_oneCell [x] u (by simpa [flatV] using hu)) (by have : maxLen = 9223372036854775807 := rfl; omega) (by omega) hbase
  refine ⟨v', w', r1, ?_, r3, r5⟩
  unfold OwnV
  rw [List.length_append, List.length_singleton, show flatV (l ++ [x]) = flatV l ++ x.cells by simp [flatV]]
  exact r2
/-! Keys in order. -/
def keysOf (L : Pairs) : List Val := L.map (·.1)
def KeysOK (L : Pairs) : Prop := (keysOf L).Nodup ∧ ∀ p ∈ L, keyV p.1 = p.1 ∧ p.1.bad = false ∧ p.1.s.size ≤ maxLen
theorem nodup_absE : ∀ {es : List Ent}, Uniq es → (keysOf (absE es)).Nodup
  | [], _ => List.nodup_nil
  | none :: r, h => by rw [absE_none]; exact nodup_absE (uniq_tail h)
  | some (k, v) :: r, h => by
    rw [absE_some]
    refine List.nodup_cons.2 ⟨fun hm => ?_, nodup_absE (uniq_tail h)⟩
    obtain ⟨⟨a, b⟩, hp, he⟩ := List.mem_map.1 hm
    obtain ⟨i, hi⟩ := mem_absE.1 hp
    cases he
    exact uniq_head h i b hi
theorem DAt.keysOK {w : World} {X : Nat → Prop} {d N : Nat} {L : Pairs} (h : DAt w X d L N) : KeysOK L := by
  obtain ⟨es, ev, tb, T, h, rfl, _⟩ := h
  refine ⟨nodup_absE h.uniq, fun p hp => ?_⟩
  obtain ⟨i, hi⟩ := mem_absE.1 hp
  obtain ⟨h1, h2, h3⟩ := h.canon i p.1 p.2 hi
  exact ⟨by rw [keyV_own h2, h1], h2, h3⟩
theorem Dct.keysOK {Z : Nat → Prop} {w0 w : World} {d N : Nat} {L : Pairs} {B : List (Nat × Val)} (h : Dct Z w0 w d L N B) : KeysOK L := by
  obtain ⟨X, h1, _⟩ := h; exact h1.keysOK
theorem keys_setA (L : Pairs) (k v : Val) : keysOf (setA L k v) = keysOf L := by
  unfold keysOf setA
  rw [List.map_map]
  apply List.map_congr_left
  intro x _
  simp only [Function.comp]
  split
  · rename_i h; exact h.symm
  · rfl
theorem keys_set (L : Pairs) (x v : Val) : keysOf (setL L x v) = if setF L x v then keysOf L ++ [keyV x] else keysOf L := by
  unfold setL setF
  cases hb : x.bad with
  | true => simp
  | false =>
    cases h : getA L (keyV x) with
    | some u => simp [keys_setA]
    | none =>
      by_cases h0 : v.own.k = 0
      · simp [h0]
      · simp [h0, keysOf]
theorem keys_drop (L : Pairs) (k : Val) : keysOf (dropA L k) = (keysOf L).filter (fun x => decide (x ≠ k)) := by
  unfold keysOf dropA
  rw [List.filter_map]
  rfl
theorem has_good {L : Pairs} {x : Val} (h : hasK L x = true) : keyE x = 0 := by
  unfold hasK at h
  unfold keyE
  cases hb : x.bad with
  | false => rfl
  | true => rw [hb] at h; simp at h
theorem getA_mem : ∀ {L : Pairs}, (keysOf L).Nodup → ∀ {p : Val × Val}, p ∈ L → getA L p.1 = some p.2
  | [], _, p, hp => by cases hp
  | x :: r, hn, p, hp => by
    unfold getA
    rw [List.find?_cons]
    have h1 := List.nodup_cons.1 (show ((x.1 :: keysOf r)).Nodup from hn)
    rcases List.mem_cons.1 hp with rfl | hp
    · simp
    · have hne : x.1 ≠ p.1 := fun e => h1.1 (by rw [e]; exact List.mem_map.2 ⟨p, hp, rfl⟩)
      simp only [hne, decide_false]
      exact getA_mem h1.2 hp
theorem getV_mem {L : Pairs} (h : KeysOK L) {p : Val × Val} (hp : p ∈ L) : getV L p.1 = p.2 := by
  obtain ⟨h1, h2, _⟩ := h.2 p hp
  unfold getV
  rw [h2, h1, getA_mem h.1 hp]
  rfl
def wantOf (L : Pairs) : List Val := (L.filter (fun p => decide (p.2.k ≠ 0))).map (·.1)
theorem wantOf_len (L : Pairs) : (wantOf L).length = liveL L := by
  unfold wantOf liveL
  rw [List.length_map, List.countP_eq_length_filter]
theorem wantOf_append (A B : Pairs) : wantOf (A ++ B) = wantOf A ++ wantOf B := by
  unfold wantOf
  rw [List.filter_append, List.map_append]
theorem wantOf_take {L : Pairs} {i : Nat} {p : Val × Val} (h : L[i]? = some p) : wantOf (L.take (i + 1)) = wantOf (L.take i) ++ if p.2.k = 0 then [] else [p.1] := by
  obtain ⟨hlt, he⟩ := List.getElem?_eq_some_iff.1 h
  rw [List.take_succ_eq_append_getElem hlt, he, wantOf_append]
  congr 1
  unfold wantOf
  by_cases h0 : p.2.k = 0 <;> simp [h0]
/-- The first that lives. -/
theorem want_split : ∀ {B : Pairs} {x : Val} {r : List Val}, wantOf B = x :: r → ∃ B1 v B2, B = B1 ++ (x, v) :: B2 ∧ (∀ p ∈ B1, p.2.k = 0) ∧ v.k ≠ 0 ∧ wantOf B2 = r
  | [], x, r, h => by cases h
  | p :: B, x, r, h => by
    by_cases h0 : p.2.k = 0
    · have h1 : wantOf B = x :: r := by
        rw [← h]
        unfold wantOf
        rw [List.filter_cons_of_neg (by simp [h0])]
      obtain ⟨B1, v, B2, rfl, h2, h3, h4⟩ := want_split h1
      exact ⟨p :: B1, v, B2, rfl, fun q hq => (List.mem_cons.1 hq).elim (fun e => e ▸ h0) (h2 q), h3, h4⟩
    · have h1 : p.1 :: wantOf B = x :: r := by
        rw [← h]
        unfold wantOf
        rw [List.filter_cons_of_pos (by simp [h0])]
        rfl
      obtain ⟨e1, e2⟩ := List.cons.inj h1
      exact ⟨[], p.2, B, by rw [← e1]; rfl, (fun q hq => by cases hq), h0, e2⟩
/-- Those that were met, their values written anew. -/
def anew (nv : Val) (A : Pairs) : Pairs := A.map (fun p => if p.2.k = 0 then p else (p.1, nv))
theorem anew_keys (nv : Val) (A : Pairs) : keysOf (anew nv A) = keysOf A := by
  unfold keysOf anew
  rw [List.map_map]
  apply List.map_congr_left
  intro x _
  simp only [Function.comp]
  split <;> rfl
theorem anew_dead {nv : Val} {A : Pairs} (h : ∀ p ∈ A, p.2.k = 0) : anew nv A = A := by
  unfold anew
  rw [List.map_congr_left (g := id) (fun p hp => by rw [if_pos (h p hp)]; rfl)]
  simp
theorem anew_append (nv : Val) (A B : Pairs) : anew nv (A ++ B) = anew nv A ++ anew nv B := List.map_append
/-- Where the walk stands: behind A. -/
def Stands (A : Pairs) (x : Val) : Prop := A = [] ∧ x = Val.nil ∨ ∃ A' v, A = A' ++ [(x, v)]
theorem first_dead {B : Pairs} (h : ∀ p ∈ B, p.2.k = 0) : firstLive B = (Val.nil, Val.nil) := by
  unfold firstLive
  rw [List.find?_eq_none.2 (fun p hp => by simp [h p hp])]
  rfl
theorem first_at {B1 B2 : Pairs} {x v : Val} (h : ∀ p ∈ B1, p.2.k = 0) (hv : v.k ≠ 0) : firstLive (B1 ++ (x, v) :: B2) = (x, v) := by
  unfold firstLive
  rw [List.find?_append, List.find?_eq_none.2 (fun p hp => by simp [h p hp]), List.find?_cons]
  simp [hv]
theorem dropWhile_to {A B : Pairs} {x v : Val} (h : x ∉ keysOf A) : (A ++ (x, v) :: B).dropWhile (fun p => decide (p.1 ≠ x)) = (x, v) :: B := by
  induction A with
  | nil => rw [List.nil_append, List.dropWhile_cons_of_neg (by simp)]
  | cons p r ih =>
    have h1 : p.1 ≠ x := fun e => h (by rw [← e]; exact List.mem_cons_self ..)
    rw [List.cons_append, List.dropWhile_cons_of_pos (by simpa using h1), ih (fun hm => h (List.mem_cons_of_mem _ hm))]
theorem not_mem_left {A B : Pairs} {x v : Val} (h : (keysOf (A ++ (x, v) :: B)).Nodup) : x ∉ keysOf A ∧ x ∉ keysOf B := by
  unfold keysOf at h ⊢
  rw [List.map_append, List.map_cons] at h
  have h1 := List.nodup_append.1 h
  exact ⟨fun hm => h1.2.2 _ hm _ (List.mem_cons_self ..) rfl, (List.nodup_cons.1 h1.2.1).1⟩
theorem next_stands {A B : Pairs} {nv x : Val} (hk : KeysOK (A ++ B)) (hs : Stands A x) : nextM (anew nv A ++ B) x = (firstLive B, 0) := by
  rcases hs with ⟨rfl, rfl⟩ | ⟨A', v, rfl⟩
  · rfl
  · have hm : (x, v) ∈ (A' ++ [(x, v)]) ++ B := by simp
    obtain ⟨h1, h2, _⟩ := hk.2 _ hm
    dsimp only at h1 h2
    have hx0 : x.k ≠ 0 := fun e => by
      unfold Val.bad at h2
      rw [e] at h2
      simp at h2
    have hn : (keysOf (A' ++ (x, v) :: B)).Nodup := by have := hk.1; rwa [List.append_assoc] at this
    obtain ⟨u, hu⟩ : ∃ u, anew nv [(x, v)] = [(x, u)] := by
      unfold anew
      by_cases h0 : v.k = 0
      · exact ⟨v, by simp [h0]⟩
      · exact ⟨nv, by simp [h0]⟩
    have hform : anew nv (A' ++ [(x, v)]) ++ B = anew nv A' ++ (x, u) :: B := by rw [anew_append, hu, List.append_assoc]; rfl
    have hn2 : (keysOf (anew nv A' ++ (x, u) :: B)).Nodup := by
      have : keysOf (anew nv A' ++ (x, u) :: B) = keysOf (A' ++ (x, v) :: B) := by
        have := anew_keys nv A'
        unfold keysOf at this ⊢
        rw [List.map_append, List.map_append, this]
        rfl
      rw [this]; exact hn
    have hget := getA_mem hn2 (p := (x, u)) (by simp)
    dsimp only at hget
    rw [hform]
    unfold nextM
    rw [if_neg hx0, show hasK (anew nv A' ++ (x, u) :: B) x = true by unfold hasK; rw [h2, h1, hget]; rfl, if_pos rfl, h1]
    unfold behind
    rw [dropWhile_to (by rw [anew_keys]; exact (not_mem_left hn).1)]
    rfl
theorem setA_off {L : Pairs} {k v : Val} (h : k ∉ keysOf L) : setA L k v = L := by
  unfold setA
  rw [List.map_congr_left (g := id) (fun p hp => by rw [if_neg (fun e => h (by rw [← e]; exact List.mem_map.2 ⟨p, hp, rfl⟩))]; rfl)]
  simp
theorem setA_append (A B : Pairs) (k v : Val) : setA (A ++ B) k v = setA A k v ++ setA B k v := List.map_append
theorem set_stands {A B1 B2 : Pairs} {nv x v : Val} (hk : KeysOK (A ++ (B1 ++ (x, v) :: B2))) (hd : ∀ p ∈ B1, p.2.k = 0) (hv : v.k ≠ 0) (hnv : nv.own = nv) :
    setL (anew nv A ++ (B1 ++ (x, v) :: B2)) x nv = anew nv (A ++ (B1 ++ [(x, v)])) ++ B2 ∧ getV (anew nv A ++ (B1 ++ (x, v) :: B2)) x = v := by
  have hm : (x, v) ∈ A ++ (B1 ++ (x, v) :: B2) := by simp
  obtain ⟨h1, h2, _⟩ := hk.2 _ hm
  dsimp only at h1 h2
  have hn : (keysOf ((A ++ B1) ++ (x, v) :: B2)).Nodup := by rw [List.append_assoc]; exact hk.1
  have hn2 : (keysOf (anew nv A ++ (B1 ++ (x, v) :: B2))).Nodup := by
    have : keysOf (anew nv A ++ (B1 ++ (x, v) :: B2)) = keysOf (A ++ (B1 ++ (x, v) :: B2)) := by
      have := anew_keys nv A
      unfold keysOf at this ⊢
      simp only [List.map_append, this]
    rw [this]; exact hk.1
  have hget := getA_mem hn2 (p := (x, v)) (by simp)
  dsimp only at hget
  obtain ⟨hl, hr⟩ := not_mem_left hn
  have hlA : x ∉ keysOf (anew nv A) := by
    rw [anew_keys]; exact fun hm => hl (by unfold keysOf at hm ⊢; rw [List.map_append]; exact List.mem_append_left _ hm)
  have hlB : x ∉ keysOf B1 := fun hm => hl (by unfold keysOf at hm ⊢; rw [List.map_append]; exact List.mem_append_right _ hm)
  refine ⟨?_, ?_⟩
  · unfold setL
    rw [h2, h1, hget, hnv, if_neg (by decide)]
    dsimp only
    rw [setA_append, setA_off hlA, setA_append, setA_off hlB, anew_append, anew_append, anew_dead hd]
    have e1 : setA ((x, v) :: B2) x nv = (x, nv) :: B2 := by
      have := setA_off (v := nv) hr
      unfold setA at this ⊢
      rw [List.map_cons, this, if_pos rfl]
    rw [e1]
    simp [anew, hv]
  · unfold getV
    rw [h2, h1, hget]
    rfl
theorem live_anew {A B : Pairs} (hB : ∀ p ∈ B, p.2.k = 0) : liveL (anew Val.nil A ++ B) = 0 := by
  unfold liveL
  rw [List.countP_eq_zero]
  intro p hp
  rcases List.mem_append.1 hp with hp | hp
  · unfold anew at hp
    obtain ⟨q, _, rfl⟩ := List.mem_map.1 hp
    split
    · rename_i h; simp [h]
    · simp
  · simp [hB p hp]
theorem want_nil {B : Pairs} (h : wantOf B = []) : ∀ p ∈ B, p.2.k = 0 := by
  intro p hp
  unfold wantOf at h
  have h1 := List.map_eq_nil_iff.1 h
  have := List.filter_eq_nil_iff.1 h1 p hp
  simpa using this
theorem Dct.len_le {Z : Nat → Prop} {w0 w : World} {d N : Nat} {L : Pairs} {B : List (Nat × Val)} (h : Dct Z w0 w d L N B) : L.length ≤ N := by
  obtain ⟨X, ⟨es, ev, tb, T, _, rfl, h2⟩, _⟩ := h
  exact Nat.le_trans (absE_len es) h2
/-- A value behind a row of values, beside a dictionary: what of the other blocks is left alone. -/
theorem Dct.append_val {Z Y : Nat → Prop} {w0 w : World} {d N : Nat} {L : Pairs} {B : List (Nat × Val)} (h : Dct Z w0 w d L N B) {v : Value} {l : List Val} (hov : OwnV w w0.heap.size v l) (hvz : ∀ b, v.ownBlock = some b → Z b) (hY : ∀ b, Y b → Z b ∧ v.ownBlock ≠ some b ∧ b < w.heap.size) (hB : ∀ p ∈ B, v.ownBlock ≠ some p.1) (x : Val) (hl : l.length ≤ 1048576) :
    ∃ v' w', (Builtin.append_ #[55, 55] 55 #[v, .slice (some ⟨w.heap.size, 0, none⟩) 1 1]).run Try.prog (w.alloc (.cells #[.int .i64 x.k, .int .i64 x.n, .string x.s] 57)) = .ok v' w' ∧ Dct (fun b => v'.ownBlock = some b ∨ Y b) w0 w' d L N B ∧ OwnV w' w0.heap.size v' (l ++ [x]) ∧ (∀ b, Y b → w'.heap[b]? = w.heap[b]?) ∧ ∀ b, v'.ownBlock = some b → v.ownBlock = some b ∨ w.heap.size ≤ b := by
  have hb1 : Below w.heap.size w (w.alloc (.cells #[.int .i64 x.k, .int .i64 x.n, .string x.s] 57)) := (Below.refl _ _).alloc (Nat.le_refl _) _
  obtain ⟨v', w', r, o, gr, at'⟩ := run_append_val (w.alloc (.cells #[.int .i64 x.k, .int .i64 x.n, .string x.s] 57)) w0.heap.size w.heap.size x (Blk.new w x.cells 57) v l (hov.below hb1) hl (Nat.le_trans h.bel.size hb1.size)
  have hat : ∀ b, v'.ownBlock = some b → v.ownBlock = some b ∨ w.heap.size ≤ b := fun b hb => by
    rcases at' with e | e
    · exact .inl (e.symm.trans hb)
    · have := Option.some.inj (hb.symm.trans e)
      have hs := hb1.size
      exact .inr (by omega)
  refine ⟨v', w', r, ?_, o, fun b hb => ?_, hat⟩
  · have h1 := (h.below hb1).zone (Y := fun b => v.ownBlock = some b ∨ v'.ownBlock = some b ∨ Y b) (fun b hb => by
      rcases hb with hb | hb | hb
      · exact .inl (hvz b hb)
      · rcases at' with e | e
        · exact .inl (hvz b (e.symm.trans hb))
        · have := Option.some.inj (hb.symm.trans e)
          exact .inr (by omega)
      · exact .inl (hY b hb).1)
    have hc : Chg (fun b => v.ownBlock = some b) (w.alloc (.cells #[.int .i64 x.k, .int .i64 x.n, .string x.s] 57)) w' := (Chg.refl _ _).grown gr (fun k e _ => e)
    exact (h1.chg hc (fun b hb => ⟨.inl hb, (hov.lt b hb).1⟩) (fun p hp => hB p hp)).zone (fun b hb => .inl (by
      rcases hb with hb | hb
      · exact .inr (.inl hb)
      · exact .inr (.inr hb)))
  · exact (gr.block b (by have := (hY b hb).2.2; simp; omega) (fun e => (hY b hb).2.1 e.symm)).trans (hb1.block b (hY b hb).2.2)
theorem filter_take {ks : List Val} {q : Nat} {x k : Val} (h : ks[q]? = some x) : (ks.take (q + 1)).filter (fun y => decide (y ≠ k)) = (ks.take q).filter (fun y => decide (y ≠ k)) ++ if x = k then [] else [x] := by
  obtain ⟨hlt, he⟩ := List.getElem?_eq_some_iff.1 h
  rw [List.take_succ_eq_append_getElem hlt, he, List.filter_append]
  congr 1
  by_cases e : x = k <;> simp [e]
theorem stands_size {A B : Pairs} {x : Val} (hk : KeysOK (A ++ B)) (hs : Stands A x) : x.s.size ≤ maxLen := by
  rcases hs with ⟨_, rfl⟩ | ⟨A', v, rfl⟩
  · exact Nat.zero_le _
  · exact (hk.2 (x, v) (by simp)).2.2
theorem anew_len (nv : Val) (A B : Pairs) : (anew nv A ++ B).length = (A ++ B).length := by
  unfold anew; simp
theorem keysOf_len (L : Pairs) : (keysOf L).length = L.length := List.length_map ..
end Go.Proofs.Ytmjfmfelbmbniaa

/- The reference's dictionary: as it lies in memory; place, Get, Has, Live. -/
namespace Go.Proofs.Ytmjfmfelbmbniaa
open Go.RowKit Go.Maps HK ShM
set_option linter.unusedVariables false
set_option linter.unusedSimpArgs false
abbrev pcells (p : Val × Val) : List Value := [.int .i64 p.1.k, .int .i64 p.1.n, .string p.1.s, .int .i64 p.2.k, .int .i64 p.2.n, .string p.2.s]
def flatP (L : Pairs) : List Value := L.flatMap pcells
theorem flatP_len (L : Pairs) : (flatP L).length = L.length * 6 := by
  induction L with
  | nil => rfl
  | cons x r ih => rw [flatP, List.flatMap_cons, List.length_append]; rw [flatP] at ih; rw [ih]; simp only [List.length_cons, List.length_nil]; omega
theorem flatP_at : ∀ {L : Pairs} {i c : Nat} {x : Val × Val}, L[i]? = some x → c < 6 → (flatP L)[i * 6 + c]? = (pcells x)[c]?
  | [], i, c, x, h, hc => by simp at h
  | y :: r, 0, c, x, h, hc => by
    simp at h; subst h
    rw [flatP, List.flatMap_cons, Nat.zero_mul, Nat.zero_add, List.getElem?_append_left (by simpa using hc)]
  | y :: r, i + 1, c, x, h, hc => by
    rw [flatP, List.flatMap_cons, List.getElem?_append_right (by show 6 ≤ _; omega), show (i + 1) * 6 + c - (pcells y).length = i * 6 + c by show (i + 1) * 6 + c - 6 = _; omega]
    exact flatP_at (L := r) (by simpa using h) hc
structure RIn (w : World) (X : Nat → Prop) (rb : Nat) (L : Pairs) (rv : Value) : Prop where
  hd : Blk w rb 74 [rv]
  rows : w.ownsRow 0 197 6 rv L.length (flatP L)
  ownR : X rb
  ownV : ∀ g, rv.ownBlock = some g → X g
  lt : ∀ b, X b → b < w.heap.size
/-- The reference's dictionary of these pairs. -/
def RD (w : World) (X : Nat → Prop) (rb : Nat) (L : Pairs) : Prop := ∃ rv, RIn w X rb L rv
section
variable {w w' : World} {X : Nat → Prop} {rb : Nat} {L : Pairs} {rv : Value}
theorem RIn.of (h : RIn w X rb L rv) (hs : w.heap.size ≤ w'.heap.size) (hb : ∀ b, X b → w'.heap[b]? = w.heap[b]?) : RIn w' X rb L rv :=
  { h with hd := h.hd.of (hb _ h.ownR), rows := ownsRow_of h.rows (fun g hg => hb _ (h.ownV g hg)), lt := fun b hB => Nat.lt_of_lt_of_le (h.lt b hB) hs }
theorem RIn.below (h : RIn w X rb L rv) (hb : Below w.heap.size w w') : RIn w' X rb L rv := h.of hb.size (fun b hB => hb.block b (h.lt b hB))
theorem RD.of (h : RD w X rb L) (hs : w.heap.size ≤ w'.heap.size) (hb : ∀ b, X b → w'.heap[b]? = w.heap[b]?) : RD w' X rb L := by obtain ⟨rv, h⟩ := h; exact ⟨rv, h.of hs hb⟩
theorem RD.below (h : RD w X rb L) (hb : Below w.heap.size w w') : RD w' X rb L := by obtain ⟨rv, h⟩ := h; exact ⟨rv, h.below hb⟩
theorem RD.lt (h : RD w X rb L) : ∀ b, X b → b < w.heap.size := by obtain ⟨rv, h⟩ := h; exact h.lt
theorem RIn.form (h : RIn w X rb L rv) : ∃ a c, rv = .slice a L.length c ∧ L.length ≤ c ∧ c ≤ 9223372036854775807 := by
  rcases h.rows.2 with ⟨he, hn⟩ | ⟨g, cap, cur, he, _, _, hc, hm, _⟩
  · exact ⟨none, 0, by rw [hn]; exact he, by omega, by omega⟩
  · exact ⟨_, cap, he, hc, hm⟩
theorem RIn.cell (h : RIn w X rb L rv) {i : Nat} {x : Val × Val} (hx : L[i]? = some x) : ∃ g cap, rv = .slice (some ⟨g, 0, none⟩) L.length cap ∧ ∀ c u, c < 6 → (pcells x)[c]? = some u → w.cell? ⟨g, i * 6 + c, none⟩ = some u := by
  rcases h.rows.2 with ⟨_, hn⟩ | ⟨g, cap, cur, rfl, _, _, hc, hm, _⟩
  · rw [List.eq_nil_of_length_eq_zero hn] at hx; simp at hx
  · refine ⟨g, cap, rfl, fun c u hc6 hu => ?_⟩
    have := h.rows.cells (g := g) rfl (i * 6 + c) u (by rw [flatP_at hx hc6, hu])
    rwa [addr0] at this
theorem getA_none {L : Pairs} {k : Val} (h : ∀ p ∈ L, p.1 ≠ k) : getA L k = none := by
  unfold getA
  rw [List.find?_eq_none.2 (fun p hp => by simpa using h p hp)]
  rfl
end
end Go.Proofs.Ytmjfmfelbmbniaa

/- The reference's dictionary: Next. -/
namespace Go.Proofs.Ytmjfmfelbmbniaa
open Go.RowKit Go.Maps HK ShM
set_option linter.unusedVariables false
set_option linter.unusedSimpArgs false
theorem rbehind {L : Pairs} (hk : KeysOK L) {i : Nat} {k v : Val} (h : L[i]? = some (k, v)) : behind L k = L.drop (i + 1) := by
  obtain ⟨hlt, he⟩ := List.getElem?_eq_some_iff.1 h
  have hL : L = L.take i ++ (k, v) :: L.drop (i + 1) := by rw [← he, ← List.drop_eq_getElem_cons hlt, List.take_append_drop]
  have hn := hk.1
  rw [hL] at hn
  conv => lhs; rw [hL]
  unfold behind
  rw [dropWhile_to (not_mem_left hn).1]
  rfl
theorem rfirst_skip {L : Pairs} {j : Nat} {x : Val × Val} (hj : L[j]? = some x) (hx : x.2.k = 0) : firstLive (L.drop (j + 1)) = firstLive (L.drop j) := by
  obtain ⟨hlt, he⟩ := List.getElem?_eq_some_iff.1 hj
  rw [List.drop_eq_getElem_cons hlt, he]
  simp [firstLive, hx]
theorem rfirst_hit {L : Pairs} {j : Nat} {x : Val × Val} (hj : L[j]? = some x) (hv : x.2.k ≠ 0) : firstLive (L.drop j) = x := by
  obtain ⟨hlt, he⟩ := List.getElem?_eq_some_iff.1 hj
  rw [List.drop_eq_getElem_cons hlt, he]
  simp [firstLive, hv]
theorem rfirst_end {L : Pairs} {j : Nat} (hj : L.length ≤ j) : firstLive (L.drop j) = (Val.nil, Val.nil) := by
  rw [List.drop_eq_nil_of_le hj]; rfl
section
variable {w w' : World} {X : Nat → Prop} {rb : Nat} {L : Pairs}
end
end Go.Proofs.Ytmjfmfelbmbniaa

/- The reference's dictionary: Set. -/
namespace Go.Proofs.Ytmjfmfelbmbniaa
open Go.RowKit Go.Maps HK ShM
set_option linter.unusedVariables false
set_option linter.unusedSimpArgs false
theorem flatP_cons (y : Val × Val) (r : Pairs) : flatP (y :: r) = .int .i64 y.1.k :: .int .i64 y.1.n :: .string y.1.s :: .int .i64 y.2.k :: .int .i64 y.2.n :: .string y.2.s :: flatP r := rfl
theorem flatP_set : ∀ {L : Pairs} {n : Nat} {k v : Val} (o : Val), L[n]? = some (k, v) → (((flatP L).set (n * 6 + 3) (.int .i64 o.k)).set (n * 6 + 4) (.int .i64 o.n)).set (n * 6 + 5) (.string o.s) = flatP (L.set n (k, o))
  | [], n, k, v, o, h => by simp at h
  | y :: r, 0, k, v, o, h => by
    simp at h; subst h
    simp [flatP_cons]
  | y :: r, n + 1, k, v, o, h => by
    have ih := flatP_set (L := r) (n := n) (k := k) (v := v) o (by simpa using h)
    rw [List.set_cons_succ, flatP_cons, flatP_cons, ← ih, show (n + 1) * 6 + 3 = n * 6 + 3 + 1 + 1 + 1 + 1 + 1 + 1 by omega, show (n + 1) * 6 + 4 = n * 6 + 4 + 1 + 1 + 1 + 1 + 1 + 1 by omega, show (n + 1) * 6 + 5 = n * 6 + 5 + 1 + 1 + 1 + 1 + 1 + 1 by omega]
    simp only [List.set_cons_succ]
theorem setA_at {L : Pairs} (hk : KeysOK L) {n : Nat} {k v o : Val} (h : L[n]? = some (k, v)) : setA L k o = L.set n (k, o) := by
  obtain ⟨hlt, he⟩ := List.getElem?_eq_some_iff.1 h
  have hL : L = L.take n ++ (k, v) :: L.drop (n + 1) := by rw [← he, ← List.drop_eq_getElem_cons hlt, List.take_append_drop]
  have hn := hk.1
  rw [hL] at hn
  obtain ⟨h1, h2⟩ := not_mem_left hn
  have hr : L.set n (k, o) = L.take n ++ (k, o) :: L.drop (n + 1) := by rw [List.set_eq_take_append_cons_drop, if_pos hlt]
  rw [hr]
  conv => lhs; rw [hL]
  rw [setA_append, setA_off h1, show setA ((k, v) :: L.drop (n + 1)) k o = (k, o) :: setA (L.drop (n + 1)) k o by unfold setA; rw [List.map_cons, if_pos rfl], setA_off h2]
section
variable {w w' : World} {X : Nat → Prop} {rb : Nat} {L : Pairs}
theorem RIn.setv {g cap n : Nat} {k v o : Val} (h : RIn w X rb L (.slice (some ⟨g, 0, none⟩) L.length cap)) (hi : L[n]? = some (k, v)) :
    RIn (((w.setCell ⟨g, n * 6 + 3, none⟩ (.int .i64 o.k)).setCell ⟨g, n * 6 + 4, none⟩ (.int .i64 o.n)).setCell ⟨g, n * 6 + 5, none⟩ (.string o.s)) X rb (L.set n (k, o)) (.slice (some ⟨g, 0, none⟩) L.length cap) := by
  have hlt := (List.getElem?_eq_some_iff.1 hi).1
  have hdg : rb ≠ g := blk_ne_row h.hd h.rows rfl (by decide)
  have hlen := flatP_len L
  refine ⟨((h.hd.setOther hdg _).setOther hdg _).setOther hdg _, ?_, h.ownR, h.ownV, fun b hb => by simpa using h.lt b hb⟩
  rw [← flatP_set o hi, List.length_set]
  exact row_set (row_set (row_set h.rows (by omega) _) (by simp; omega) _) (by simp; omega) _
end
end Go.Proofs.Ytmjfmfelbmbniaa

/- The reference's dictionary: Drop. -/
namespace Go.Proofs.Ytmjfmfelbmbniaa
open Go.RowKit Go.Maps HK ShM
set_option linter.unusedVariables false
set_option linter.unusedSimpArgs false
section
variable {w w' : World} {X : Nat → Prop} {rb : Nat} {L : Pairs}
end
end Go.Proofs.Ytmjfmfelbmbniaa

/- Layer 14 without memory: a table's array, what is in the rest, its shape. -/
namespace Go.Proofs.Ytmjfmfelbmbniaa
open Go.RowKit Go.Maps HK ShM
set_option linter.unusedVariables false
set_option linter.unusedSimpArgs false
/-- A table: the array, the rest, whether it is kept by a dictionary, its shape's number. -/
structure Tab where
  A : List Val
  R : Pairs
  h : Bool
  i : Nat
abbrev intV (n : Int) : Val := ⟨2, n, Val.e⟩
abbrev strV (s : ByteArray) : Val := ⟨3, 0, s⟩
def inA (A : List Val) (k : Val) : Bool := decide (k.k = 2) && decide (1 ≤ k.n) && decide (k.n ≤ (A.length : Int))
def tgetM (s : Tab) (k : Val) : Val := if inA s.A k then s.A.getD (k.n - 1).toNat Val.nil else getV s.R k
def trim (A : List Val) : List Val := (A.reverse.dropWhile (fun v => decide (v.k = 0))).reverse
/-- What follows in the rest comes behind the array. -/
def pull : Nat → List Val → Pairs → List Val × Pairs
  | 0, A, R => (A, R)
  | f + 1, A, R => if (getV R (intV (A.length + 1))).k = 0 then (A, R) else pull f (A ++ [getV R (intV (A.length + 1))]) (dropA R (intV (A.length + 1)))
structure TOut where
  fresh : Int
  e : Int
  s : Tab
  T : List Sh
def otherM (D F : Int) (T : List Sh) (s : Tab) (x v : Val) : TOut :=
  if setF s.R x v then
    if s.h then ⟨1, 0, { s with R := setL s.R x v }, T⟩
    else if (keyV x).k = 3 then
      if (addM D F T s.i (keyV x).s).ok then ⟨1, 0, { s with R := setL s.R x v, i := (addM D F T s.i (keyV x).s).r.toNat }, (addM D F T s.i (keyV x).s).T⟩
      else ⟨1, 0, { s with R := setL s.R x v, h := true, i := 0 }, T⟩
    else ⟨1, 0, { s with R := setL s.R x v, h := true, i := 0 }, T⟩
  else ⟨0, 0, { s with R := setL s.R x v }, T⟩
def growM (s : Tab) (k o : Val) : Int × Tab :=
  (if (getA s.R k).isSome then 0 else 1, { s with A := (pull s.R.length (s.A ++ [o]) (dropA s.R k)).1, R := (pull s.R.length (s.A ++ [o]) (dropA s.R k)).2 })
def tsetM (D F : Int) (T : List Sh) (s : Tab) (x v : Val) : TOut :=
  if x.bad then ⟨0, 15, s, T⟩
  else if inA s.A (keyV x) then ⟨0, 0, { s with A := trim (s.A.set ((keyV x).n - 1).toNat v.own) }, T⟩
  else if v.own.k ≠ 0 ∧ keyV x = intV (s.A.length + 1) then ⟨(growM s (keyV x) v.own).1, 0, (growM s (keyV x) v.own).2, T⟩
  else otherM D F T s x v
/-- The first that lives of an array, from a place on. -/
def firstA (A : List Val) (j : Nat) : Option (Val × Val) := match (A.drop j).findIdx? (fun v => decide (v.k ≠ 0)) with
  | some i => some (intV ((j + i : Nat) + 1), A.getD (j + i) Val.nil)
  | none => none
def aboveM (s : Tab) (from_ : Int) : (Val × Val) × Int := match firstA s.A from_.toNat with
  | some p => (p, 0)
  | none => nextM s.R Val.nil
def tnextM (s : Tab) (x : Val) : (Val × Val) × Int :=
  if x.k = 0 then aboveM s 0
  else if x.k = 2 ∧ 1 ≤ x.n ∧ hasK s.R x = false then aboveM s x.n
  else nextM s.R x
/-! Keys that are strings, with their slots. -/
def strPairs : List ByteArray → List Val → Pairs
  | k :: ks, v :: S => (strV k, v) :: strPairs ks S
  | _, _ => []
theorem strPairs_len : ∀ {ks : List ByteArray} {S : List Val}, S.length = ks.length → (strPairs ks S).length = ks.length
  | [], [], _ => rfl
  | [], _ :: _, h => by simp at h
  | _ :: _, [], h => by simp at h
  | k :: ks, v :: S, h => by
    show (strPairs ks S).length + 1 = ks.length + 1
    rw [strPairs_len (by simpa using h)]
theorem strPairs_at : ∀ {ks : List ByteArray} {S : List Val} {j : Nat} {k : ByteArray} {v : Val}, ks[j]? = some k → S[j]? = some v → (strPairs ks S)[j]? = some (strV k, v)
  | [], _, _, _, _, h, _ => by simp at h
  | _ :: _, [], _, _, _, _, h => by simp at h
  | k :: ks, v :: S, 0, _, _, h, h' => by simp at h h'; subst h h'; rfl
  | k :: ks, v :: S, j + 1, a, b, h, h' => by
    show (strPairs ks S)[j]? = _
    exact strPairs_at (by simpa using h) (by simpa using h')
theorem strPairs_keys : ∀ {ks : List ByteArray} {S : List Val}, S.length = ks.length → keysOf (strPairs ks S) = ks.map strV
  | [], [], _ => rfl
  | [], _ :: _, h => by simp at h
  | _ :: _, [], h => by simp at h
  | k :: ks, v :: S, h => by
    show strV k :: keysOf (strPairs ks S) = strV k :: ks.map strV
    rw [strPairs_keys (by simpa using h)]
theorem strPairs_snoc : ∀ {ks : List ByteArray} {S : List Val} (k : ByteArray) (v : Val), S.length = ks.length → strPairs (ks ++ [k]) (S ++ [v]) = strPairs ks S ++ [(strV k, v)]
  | [], [], _, _, _ => rfl
  | [], _ :: _, _, _, h => by simp at h
  | _ :: _, [], _, _, h => by simp at h
  | k :: ks, v :: S, a, b, h => by
    show (strV k, v) :: strPairs (ks ++ [a]) (S ++ [b]) = _
    rw [strPairs_snoc a b (by simpa using h)]; rfl
theorem strPairs_set : ∀ {ks : List ByteArray} {S : List Val} {j : Nat} {k : ByteArray} (v : Val), S.length = ks.length → ks[j]? = some k → strPairs ks (S.set j v) = (strPairs ks S).set j (strV k, v)
  | [], [], _, _, _, _, h => by simp at h
  | [], _ :: _, _, _, _, h, _ => by simp at h
  | _ :: _, [], _, _, _, h, _ => by simp at h
  | k :: ks, u :: S, 0, a, v, _, h => by simp at h; subst h; rfl
  | k :: ks, u :: S, j + 1, a, v, h, h' => by
    show (strV k, u) :: strPairs ks (S.set j v) = _
    rw [strPairs_set (j := j) v (by simpa using h) (by simpa using h')]; rfl
theorem strPairs_mem : ∀ {ks : List ByteArray} {S : List Val} {p : Val × Val}, p ∈ strPairs ks S → ∃ k ∈ ks, p.1 = strV k
  | [], _, _, h => by cases h
  | _ :: _, [], _, h => by cases h
  | k :: ks, v :: S, p, h => by
    rcases List.mem_cons.1 (show p ∈ (strV k, v) :: strPairs ks S from h) with rfl | h
    · exact ⟨k, List.mem_cons_self .., rfl⟩
    · obtain ⟨a, h1, h2⟩ := strPairs_mem h
      exact ⟨a, List.mem_cons_of_mem _ h1, h2⟩
theorem strV_key (k : ByteArray) : keyV (strV k) = strV k ∧ (strV k).bad = false := ⟨rfl, rfl⟩
theorem strPairs_ok {ks : List ByteArray} {S : List Val} (hl : S.length = ks.length) (hn : ks.Nodup) (hs : ∀ k ∈ ks, k.size ≤ maxLen) : KeysOK (strPairs ks S) := by
  refine ⟨?_, fun p hp => ?_⟩
  · rw [strPairs_keys hl]
    exact List.Pairwise.map _ (fun a b h e => h (by cases e; rfl)) hn
  · obtain ⟨k, h1, h2⟩ := strPairs_mem hp
    rw [h2]
    exact ⟨rfl, rfl, hs k h1⟩
/-- A key of a table whose rest is slots. -/
theorem getA_slot {ks : List ByteArray} {S : List Val} (hl : S.length = ks.length) (hn : ks.Nodup) (s : ByteArray) : getA (strPairs ks S) (strV s) = (slotOf ks s).bind (fun j => S[j]?) := by
  cases h : slotOf ks s with
  | none =>
    refine getA_none (fun p hp e => ?_)
    obtain ⟨k, h1, h2⟩ := strPairs_mem hp
    rw [h2] at e
    cases e
    exact slotOf_none.1 h h1
  | some j =>
    have hj := slotOf_get h
    have hlt := (List.getElem?_eq_some_iff.1 hj).1
    have hS : S[j]? = some S[j] := List.getElem?_eq_getElem (by omega)
    show _ = S[j]?
    rw [hS]
    have hk : (keysOf (strPairs ks S)).Nodup := by
      rw [strPairs_keys hl]
      exact List.Pairwise.map _ (fun a b h e => h (by cases e; rfl)) hn
    have := getA_mem hk (List.mem_of_getElem? (strPairs_at hj hS))
    exact this
theorem getA_other {ks : List ByteArray} {S : List Val} {x : Val} (hx : x.k ≠ 3) : getA (strPairs ks S) x = none :=
  getA_none (fun p hp e => by
    obtain ⟨k, h1, h2⟩ := strPairs_mem hp
    rw [h2] at e
    subst e
    exact hx rfl)
theorem keyV_k {x : Val} (h : x.bad = false) : (keyV x).k = x.k := by
  unfold keyV
  rw [h]
  exact own_k h
theorem keyV_str {x : Val} (h : x.k = 3) : keyV x = strV x.s ∧ x.bad = false := by
  obtain ⟨k, n, s⟩ := x
  have h : k = 3 := h
  subst h
  exact ⟨rfl, rfl⟩
theorem hasK_str {ks : List ByteArray} {S : List Val} (hl : S.length = ks.length) (hn : ks.Nodup) {x : Val} (h : x.k = 3) : hasK (strPairs ks S) x = (slotOf ks x.s).isSome ∧ ∀ j, slotOf ks x.s = some j → ∃ v, S[j]? = some v ∧ getV (strPairs ks S) x = v := by
  obtain ⟨h1, h2⟩ := keyV_str h
  have hg := getA_slot hl hn x.s
  cases hs : slotOf ks x.s with
  | none =>
    rw [hs] at hg
    refine ⟨by unfold hasK; rw [h1, h2, hg]; rfl, fun j hj => by cases hj⟩
  | some j =>
    rw [hs] at hg
    have hlt := (List.getElem?_eq_some_iff.1 (slotOf_get hs)).1
    have hS : S[j]? = some S[j] := List.getElem?_eq_getElem (by omega)
    have hg : getA (strPairs ks S) (strV x.s) = S[j]? := hg
    rw [hS] at hg
    refine ⟨by unfold hasK; rw [h1, h2, hg]; rfl, fun i hi => ?_⟩
    cases hi
    exact ⟨S[j], hS, by unfold getV; rw [h1, h2, hg]; rfl⟩
theorem getV_miss {L : Pairs} {x : Val} (h : hasK L x = false) : getV L x = Val.nil := by
  unfold hasK at h
  unfold getV
  cases hb : x.bad with
  | true => rfl
  | false =>
    rw [hb] at h
    cases hg : getA L (keyV x) with
    | none => rfl
    | some v => rw [hg] at h; cases h
theorem hasK_other {ks : List ByteArray} {S : List Val} {x : Val} (h : x.k ≠ 3) : hasK (strPairs ks S) x = false := by
  unfold hasK
  cases hb : x.bad with
  | true => rfl
  | false => rw [getA_other (by rw [keyV_k hb]; exact h)]; rfl
end Go.Proofs.Ytmjfmfelbmbniaa

/- Layer 14: a table in memory; the tree it stands over, or none; what is only read. -/
namespace Go.Proofs.Ytmjfmfelbmbniaa
open Go.RowKit Go.Maps HK ShM
set_option linter.unusedVariables false
set_option linter.unusedSimpArgs false
theorem wf_none : WF 0 T0 := by
  refine ⟨by decide, by decide, by decide, by decide, rfl, fun i hi => ?_, fun i hi => ?_, fun i hi => ?_, fun i hi p hp => ?_⟩ <;>
    (have hi : i < 1 := hi; obtain rfl : i = 0 := by omega)
  · exact Int.le_refl _
  · exact List.nodup_nil
  · show (-1 : Int) < 0; decide
  · have hp : (-1 : Int) = (p : Int) := hp; omega
/-- A tree of shapes, or none: that answers as one that grows never. -/
def Tr (w : World) (B : Nat → Prop) (tp : Value) (D F : Int) (T : List Sh) : Prop :=
  (tp = .pointer none ∧ D = 0 ∧ T = T0 ∧ ∀ b, ¬ B b) ∨ (∃ tb names, tp = .pointer (some ⟨tb, 0, none⟩) ∧ TreeAt w B tb D F names T)
section
variable {w w' : World} {B : Nat → Prop} {tp : Value} {D F : Int} {T : List Sh}
theorem Tr.wf (h : Tr w B tp D F T) : WF D T := by
  rcases h with ⟨_, rfl, rfl, _⟩ | ⟨tb, names, _, ⟨L, h⟩⟩
  · exact wf_none
  · exact h.wf
theorem Tr.lt (h : Tr w B tp D F T) : ∀ b, B b → b < w.heap.size := by
  rcases h with ⟨_, _, _, h⟩ | ⟨tb, names, _, ⟨L, h⟩⟩
  · exact fun b hb => absurd hb (h b)
  · exact h.lt
theorem Tr.of (h : Tr w B tp D F T) (hs : w.heap.size ≤ w'.heap.size) (hb : ∀ b, B b → w'.heap[b]? = w.heap[b]?) : Tr w' B tp D F T := by
  rcases h with h | ⟨tb, names, h1, h2⟩
  · exact .inl h
  · exact .inr ⟨tb, names, h1, h2.of hs hb⟩
theorem Tr.below (h : Tr w B tp D F T) (hb : Below w.heap.size w w') : Tr w' B tp D F T := h.of hb.size (fun b hB => hb.block b (h.lt b hB))
theorem Tr.slot (h : Tr w B tp D F T) (i : Int) (s : ByteArray) (hs : s.size ≤ maxLen) : Calls Try.prog 34 #[tp, .int .i64 i, .string s] w fun e w' =>
    e = .returned (.tuple #[.int .i64 ((slotM T i s).getD 0 : Nat), .bool (slotM T i s).isSome]) ∧ w = w' := by
  rcases h with ⟨rfl, rfl, rfl, _⟩ | ⟨tb, names, rfl, h⟩
  · have e : slotM T0 i s = none := by
      unfold slotM
      by_cases hi : i < 0 ∨ ((T0.length : Nat) : Int) ≤ i
      · rw [if_pos hi]
      · rw [if_neg hi]
        have hi : i = 0 := by have : ((T0.length : Nat) : Int) = 1 := rfl; omega
        subst hi; rfl
    rw [e]
    exact slot_nil i s w
  · exact slot_calls h i s hs
theorem Tr.keys (h : Tr w B tp D F T) (i : Int) : Calls Try.prog 30 #[tp, .int .i64 i] w fun e w' => ∃ v, e = .returned v ∧ NewStrs w w' v (keysM T i) := by
  rcases h with ⟨rfl, rfl, rfl, _⟩ | ⟨tb, names, rfl, h⟩
  · have e : keysM T0 i = [] := by
      unfold keysM
      by_cases hi : i < 0 ∨ ((T0.length : Nat) : Int) ≤ i
      · rw [if_pos hi]
      · rw [if_neg hi]
        have hi : i = 0 := by have : ((T0.length : Nat) : Int) = 1 := rfl; omega
        subst hi; rfl
    rw [e]
    refine (keys_nil i w).mono ?_
    rintro e w' ⟨rfl, rfl⟩
    exact ⟨_, rfl, World.ownsRow_nil _ _ _ _, (fun g hg => by cases hg), Below.refl _ _⟩
  · exact keys_calls h i
theorem add_nil (i : Int) (s : ByteArray) (w : World) : Calls Try.prog 28 #[.pointer none, .int .i64 i, .string s] w fun e w' => e = .returned (.tuple #[.int .i64 0, .bool false]) ∧ w = w' := by
  go_enter Try.func28, Try.ntmps28
  go_wp2_with (go_at_call 103; refine (at_nil _ _).mono ?_; rintro e w' ⟨rfl, rfl⟩)
  go_ret2
  exact ⟨rfl, rfl⟩
def TrGrown (w w' : World) (B : Nat → Prop) (tp : Value) (D F : Int) (T' : List Sh) : Prop := ∃ B', Tr w' B' tp D F T' ∧ Chg B w w' ∧ ∀ b, B' b → B b ∨ w.heap.size ≤ b
theorem Tr.add (h : Tr w B tp D F T) (i : Int) (z : ByteArray) (hz : z.size ≤ maxLen) : Calls Try.prog 28 #[tp, .int .i64 i, .string z] w fun e w' =>
    e = .returned (.tuple #[.int .i64 (addM D F T i z).r, .bool (addM D F T i z).ok]) ∧ TrGrown w w' B tp D F (addM D F T i z).T := by
  rcases h with ⟨rfl, rfl, rfl, hB⟩ | ⟨tb, names, rfl, h⟩
  · have e : addM 0 F T0 i z = ⟨0, false, T0⟩ := by
      unfold addM
      by_cases hi : i < 0 ∨ ((T0.length : Nat) : Int) ≤ i
      · rw [if_pos hi]
      · rw [if_neg hi]
        have hi : i = 0 := by have : ((T0.length : Nat) : Int) = 1 := rfl; omega
        subst hi
        simp [T0, kidFrom]
    rw [e]
    refine (add_nil i z w).mono ?_
    rintro e w' ⟨rfl, rfl⟩
    exact ⟨rfl, B, .inl ⟨rfl, rfl, rfl, hB⟩, Chg.refl _ _, fun b hb => .inl hb⟩
  · refine (add_calls h i z hz).mono ?_
    rintro e w' ⟨rfl, B', h1, h2, h3⟩
    exact ⟨rfl, B', .inr ⟨tb, names, rfl, h1⟩, h2, h3⟩
end
/-- A table whose rest is slots. -/
structure TSh (w : World) (X : Nat → Prop) (tb : Nat) (tp mp : Value) (T : List Sh) (A : List Val) (i : Nat) (S : List Val) (av sv : Value) : Prop where
  hd : Blk w tb 202 [av, tp, .int .i64 1, .int .i64 (i : Nat), sv, .pointer none, mp]
  arr : OwnV w 0 av A
  slo : OwnV w 0 sv S
  ne : ∀ g, av.ownBlock = some g → sv.ownBlock ≠ some g
  lti : i < T.length
  len : S.length = (ksOf T i).length
  nd : (ksOf T i).Nodup
  sz : ∀ k ∈ ksOf T i, k.size ≤ maxLen
  le64 : (ksOf T i).length ≤ 64
  ownT : X tb
  ownA : ∀ g, av.ownBlock = some g → X g
  ownS : ∀ g, sv.ownBlock = some g → X g
  lt : ∀ b, X b → b < w.heap.size
/-- A table whose rest is a dictionary. -/
structure THa (w : World) (X : Nat → Prop) (tb : Nat) (tp mp : Value) (A : List Val) (R : Pairs) (M : Nat) (av : Value) (d : Nat) (Y : Nat → Prop) : Prop where
  hd : Blk w tb 202 [av, tp, .int .i64 2, .int .i64 (-1), .slice none 0 0, .pointer (some ⟨d, 0, none⟩), mp]
  arr : OwnV w 0 av A
  dict : DAt w Y d R M
  ownT : X tb
  ownA : ∀ g, av.ownBlock = some g → X g
  ownY : ∀ b, Y b → X b ∧ b ≠ tb ∧ av.ownBlock ≠ some b
  lt : ∀ b, X b → b < w.heap.size
def TAt (w : World) (X : Nat → Prop) (tb : Nat) (tp mp : Value) (T : List Sh) (s : Tab) (N : Nat) : Prop :=
  s.A.length + s.R.length ≤ N ∧ ((s.h = false ∧ ∃ S av sv, TSh w X tb tp mp T s.A s.i S av sv ∧ s.R = strPairs (ksOf T s.i) S) ∨ (s.h = true ∧ s.i = 0 ∧ ∃ av d Y, THa w X tb tp mp s.A s.R (N + 128) av d Y))
section
variable {w w' : World} {X Y : Nat → Prop} {tb i M N d : Nat} {tp mp av sv : Value} {T : List Sh} {A S : List Val} {R : Pairs} {s : Tab}
theorem TSh.of (h : TSh w X tb tp mp T A i S av sv) (hs : w.heap.size ≤ w'.heap.size) (hb : ∀ b, X b → w'.heap[b]? = w.heap[b]?) : TSh w' X tb tp mp T A i S av sv :=
  { h with hd := h.hd.of (hb _ h.ownT), arr := h.arr.of (fun g hg => hb g (h.ownA g hg)), slo := h.slo.of (fun g hg => hb g (h.ownS g hg)), lt := fun b hX => Nat.lt_of_lt_of_le (h.lt b hX) hs }
theorem THa.of (h : THa w X tb tp mp A R M av d Y) (hs : w.heap.size ≤ w'.heap.size) (hb : ∀ b, X b → w'.heap[b]? = w.heap[b]?) : THa w' X tb tp mp A R M av d Y :=
  { h with hd := h.hd.of (hb _ h.ownT), arr := h.arr.of (fun g hg => hb g (h.ownA g hg)), dict := h.dict.of hs (fun b hY => hb b (h.ownY b hY).1), lt := fun b hX => Nat.lt_of_lt_of_le (h.lt b hX) hs }
theorem TSh.below (h : TSh w X tb tp mp T A i S av sv) (hb : Below w.heap.size w w') : TSh w' X tb tp mp T A i S av sv := h.of hb.size (fun b hX => hb.block b (h.lt b hX))
theorem THa.below (h : THa w X tb tp mp A R M av d Y) (hb : Below w.heap.size w w') : THa w' X tb tp mp A R M av d Y := h.of hb.size (fun b hX => hb.block b (h.lt b hX))
theorem TAt.of (h : TAt w X tb tp mp T s N) (hs : w.heap.size ≤ w'.heap.size) (hb : ∀ b, X b → w'.heap[b]? = w.heap[b]?) : TAt w' X tb tp mp T s N := by
  obtain ⟨h0, ⟨h1, S, av, sv, h2, h3⟩ | ⟨h1, h2, av, d, Y, h3⟩⟩ := h
  · exact ⟨h0, .inl ⟨h1, S, av, sv, h2.of hs hb, h3⟩⟩
  · exact ⟨h0, .inr ⟨h1, h2, av, d, Y, h3.of hs hb⟩⟩
theorem TAt.lt (h : TAt w X tb tp mp T s N) : ∀ b, X b → b < w.heap.size := by
  obtain ⟨h0, ⟨h1, S, av, sv, h2, h3⟩ | ⟨h1, h2, av, d, Y, h3⟩⟩ := h
  · exact h2.lt
  · exact h3.lt
theorem TAt.below (h : TAt w X tb tp mp T s N) (hb : Below w.heap.size w w') : TAt w' X tb tp mp T s N := h.of hb.size (fun b hX => hb.block b (h.lt b hX))
theorem TAt.own (h : TAt w X tb tp mp T s N) : X tb := by
  obtain ⟨h0, ⟨h1, S, av, sv, h2, h3⟩ | ⟨h1, h2, av, d, Y, h3⟩⟩ := h
  · exact h2.ownT
  · exact h3.ownT
/-- The table's fields, whichever way it is kept. -/
theorem TAt.head (h : TAt w X tb tp mp T s N) : ∃ av sv rp, Blk w tb 202 [av, tp, .int .i64 (if s.h then 2 else 1), .int .i64 (if s.h then -1 else (s.i : Int)), sv, rp, mp] ∧ OwnV w 0 av s.A ∧ ∀ g, av.ownBlock = some g → X g := by
  obtain ⟨h0, ⟨h1, S, av, sv, h2, h3⟩ | ⟨h1, h2, av, d, Y, h3⟩⟩ := h
  · exact ⟨av, sv, _, by rw [h1]; exact h2.hd, h2.arr, h2.ownA⟩
  · exact ⟨av, _, _, by rw [h1]; exact h3.hd, h3.arr, h3.ownA⟩
theorem tlen_calls (h : TAt w X tb tp mp T s N) : Calls Try.prog 72 #[.pointer (some ⟨tb, 0, none⟩)] w fun e w' => e = .returned (.int .i64 (s.A.length : Nat)) ∧ w = w' := by
  obtain ⟨av, sv, rp, h1, h2, _⟩ := h.head
  obtain ⟨a, c, rfl, hc1, hc2⟩ := h2.form
  have c0 := h1.cell 0 _ rfl
  clear h1 h2 h
  generalize s.A.length = n at *
  go_enter Try.func72, Try.ntmps72
  go_wp2
  go_ret
  exact ⟨rfl, rfl⟩
theorem tmode_calls (h : TAt w X tb tp mp T s N) : Calls Try.prog 64 #[.pointer (some ⟨tb, 0, none⟩)] w fun e w' => e = .returned (.int .i64 (if s.h then 2 else 1)) ∧ w = w' := by
  obtain ⟨av, sv, rp, h1, h2, _⟩ := h.head
  have c2 := h1.cell 2 _ rfl
  clear h1 h2 h
  generalize (if s.h then (2 : Int) else 1) = n at *
  go_enter Try.func64, Try.ntmps64
  go_wp2
  go_ret
  exact ⟨rfl, rfl⟩
theorem tshape_calls (h : TAt w X tb tp mp T s N) : Calls Try.prog 65 #[.pointer (some ⟨tb, 0, none⟩)] w fun e w' => e = .returned (.int .i64 (if s.h then -1 else (s.i : Int))) ∧ w = w' := by
  obtain ⟨av, sv, rp, h1, h2, _⟩ := h.head
  have c3 := h1.cell 3 _ rfl
  clear h1 h2 h
  generalize (if s.h then (-1 : Int) else (s.i : Int)) = n at *
  go_enter Try.func65, Try.ntmps65
  go_wp2
  go_ret
  exact ⟨rfl, rfl⟩
theorem tmeta_calls (h : TAt w X tb tp mp T s N) : Calls Try.prog 84 #[.pointer (some ⟨tb, 0, none⟩)] w fun e w' => e = .returned mp ∧ w = w' := by
  obtain ⟨av, sv, rp, h1, h2, _⟩ := h.head
  have c6 := h1.cell 6 _ rfl
  clear h1 h2 h
  go_enter Try.func84, Try.ntmps84
  go_wp2
  go_ret
  exact ⟨rfl, rfl⟩
theorem TSh.setMeta (h : TSh w X tb tp mp T A i S av sv) (mq : Value) : TSh (w.setCell ⟨tb, 6, none⟩ mq) X tb tp mq T A i S av sv :=
  { h with hd := h.hd.setSame 6 mq, arr := h.arr.of (fun g hg => Below.heap_setCell _ _ _ _ (fun e => blk_ne_row h.hd h.arr hg (by decide) e.symm)), slo := h.slo.of (fun g hg => Below.heap_setCell _ _ _ _ (fun e => blk_ne_row h.hd h.slo hg (by decide) e.symm)), lt := fun b hX => by simpa using h.lt b hX }
theorem THa.setMeta (h : THa w X tb tp mp A R M av d Y) (mq : Value) : THa (w.setCell ⟨tb, 6, none⟩ mq) X tb tp mq A R M av d Y :=
  { h with hd := h.hd.setSame 6 mq, arr := h.arr.of (fun g hg => Below.heap_setCell _ _ _ _ (fun e => blk_ne_row h.hd h.arr hg (by decide) e.symm)), dict := h.dict.of (by simp) (fun b hb => Below.heap_setCell _ _ _ _ (h.ownY b hb).2.1), lt := fun b hX => by simpa using h.lt b hX }
theorem tsetMeta_calls (h : TAt w X tb tp mp T s N) (q : Option Addr) : Calls Try.prog 90 #[.pointer (some ⟨tb, 0, none⟩), .pointer q] w fun e w' => e = .returned (.tuple #[]) ∧ TAt w' X tb tp (.pointer q) T s N ∧ Chg X w w' := by
  have HT := Lib.hid h
  obtain ⟨av, sv, rp, h1, h2, _⟩ := h.head
  have c6 := h1.cell 6 _ rfl
  have f6 := h1.frozen 6
  clear h1 h2 h
  go_enter Try.func90, Try.ntmps90
  go_wp2
  refine bodyPost_end (by simp [results, Try.results90, go_sem]) rfl ⟨rfl, ?_, (Chg.refl X w).setCell (fun _ => HT.out.own) _⟩
  obtain ⟨h0, ⟨h1, S, av, sv, h2, h3⟩ | ⟨h1, h2, av, d, Y, h3⟩⟩ := HT.out
  · exact ⟨h0, .inl ⟨h1, S, av, sv, h2.setMeta _, h3⟩⟩
  · exact ⟨h0, .inr ⟨h1, h2, av, d, Y, h3.setMeta _⟩⟩
end
end Go.Proofs.Ytmjfmfelbmbniaa

/- Layer 14: New; a key's place in the array; a key's slot; Get. -/
namespace Go.Proofs.Ytmjfmfelbmbniaa
open Go.RowKit Go.Maps HK ShM
set_option linter.unusedVariables false
set_option linter.unusedSimpArgs false
section
variable {w w' : World} {X Y B : Nat → Prop} {tb i M N d : Nat} {tp mp av sv : Value} {T : List Sh} {A S : List Val} {R : Pairs} {s : Tab} {D F : Int}
theorem tnew_calls (q : Option Addr) (h : Tr w B (.pointer q) D F T) (hr : (ksOf T 0) = []) : Calls Try.prog 62 #[.pointer q] w fun e w' => ∃ X tb, e = .returned (.pointer (some ⟨tb, 0, none⟩)) ∧ TAt w' X tb (.pointer q) (.pointer none) T ⟨[], [], false, 0⟩ 0 ∧ (∀ b, X b → w.heap.size ≤ b) ∧ Below w.heap.size w w' := by
  have HW := Lib.hid h.wf.pos
  have HR := Lib.hid hr
  clear h hr
  have hb : Blk (w.alloc (.cells #[.slice none 0 0, .pointer q, .int .i64 1, .int .i64 0, .slice none 0 0, .pointer none, .pointer none] 202)) w.heap.size 202 [.slice none 0 0, .pointer q, .int .i64 1, .int .i64 0, .slice none 0 0, .pointer none, .pointer none] := Blk.new w _ 202
  have HB := Lib.hid hb
  clear hb
  go_enter Try.func62, Try.ntmps62
  go_wp2
  go_ret
  refine ⟨fun b => b = w.heap.size, w.heap.size, rfl, ⟨Nat.le_refl _, .inl ⟨rfl, [], .slice none 0 0, .slice none 0 0, ⟨HB.out, World.ownsRow_nil _ _ _ _, World.ownsRow_nil _ _ _ _, (fun g hg => by cases hg), HW.out, by rw [HR.out]; rfl, by rw [HR.out]; exact List.nodup_nil, (fun k hk => by rw [HR.out] at hk; cases hk), by rw [HR.out]; exact Nat.zero_le _, rfl, (fun g hg => by cases hg), (fun g hg => by cases hg), (fun b e => by subst e; simp)⟩, by rw [HR.out]; rfl⟩⟩, fun b e => by subst e; exact Nat.le_refl _, (Below.refl _ _).alloc (Nat.le_refl _) _⟩
/-- A key's place in the array: of a table whose first field is a slice. -/
theorem array1_calls (a : Option Addr) (n c : Nat) (x : Val) (c0 : w.cell? ⟨tb, 0, none⟩ = some (.slice a n c)) (hn : n ≤ 1048576) (A : List Val) (hA : A.length = n) :
    Calls Try.prog 119 #[.pointer (some ⟨tb, 0, none⟩), x.v] w fun e w' => e = .returned (.tuple #[.int .i64 (if inA A x then x.n - 1 else 0), .bool (inA A x)]) ∧ Below w.heap.size w w' := by
  have hb : Below w.heap.size w (w.alloc (.cells #[.int .i64 x.k, .int .i64 x.n, .string x.s] 57)) := (Below.refl _ _).alloc (Nat.le_refl _) _
  have HB := Lib.hid hb
  have hlt := World.block_lt_of_cell? w _ c0
  have c0' : (w.alloc (.cells #[.int .i64 x.k, .int .i64 x.n, .string x.s] 57)).cell? ⟨tb, 0, none⟩ = some (.slice a n c) := (hb.cell hlt).trans c0
  clear c0 hlt hb
  obtain ⟨x1, x2, x3⟩ := x
  have HE : Hid (inA A ⟨x1, x2, x3⟩ = (decide (x1 = 2) && decide (1 ≤ x2) && decide (x2 ≤ (n : Int)))) := Lib.hid (by unfold inA; rw [hA])
  obtain ⟨f, hf⟩ : ∃ f, inA A ⟨x1, x2, x3⟩ = f := ⟨_, rfl⟩
  rw [hf] at HE ⊢
  clear hf hA
  by_cases h1 : x1 = 2
  · subst h1
    by_cases h2 : 1 ≤ x2
    · have h2' : decide (x2 < 1) = false := decide_eq_false (by omega)
      by_cases h3 : x2 ≤ (n : Int)
      · have h3' : decide ((n : Int) < x2) = false := decide_eq_false (by omega)
        have hf : f = true := by rw [HE.out]; simp [h2, h3]
        subst hf
        go_enter Try.func119, Try.ntmps119
        go_upto_region 1 with (fail)
        go_quiet (fail)
        go_wp2
        go_ret2
        exact ⟨by simp, Below.drewN HB.out _⟩
      · have h3' : decide ((n : Int) < x2) = true := decide_eq_true (by omega)
        have hf : f = false := by rw [HE.out]; simp [h3]
        subst hf
        go_enter Try.func119, Try.ntmps119
        go_upto_region 1 with (fail)
        go_quiet (fail)
        go_wp2
        go_ret2
        exact ⟨by simp, Below.drewN HB.out _⟩
    · have h2' : decide (x2 < 1) = true := decide_eq_true (by omega)
      have hf : f = false := by rw [HE.out]; simp [h2]
      subst hf
      go_enter Try.func119, Try.ntmps119
      go_upto_region 1 with (fail)
      go_quiet (fail)
      go_wp2
      go_ret2
      exact ⟨by simp, Below.drewN HB.out _⟩
  · have h1' : (x1 != 2) = true := by simp [h1]
    have hf : f = false := by rw [HE.out]; simp [h1]
    subst hf
    go_enter Try.func119, Try.ntmps119
    go_upto_region 1 with (fail)
    go_quiet (fail)
    go_wp2
    go_ret2
    exact ⟨by simp, Below.drewN HB.out _⟩
def slotX (T : List Sh) (i : Nat) (x : Val) : Option Nat := if x.k = 3 then slotOf (ksOf T i) x.s else none
theorem slotM_in (hi : i < T.length) (z : ByteArray) : slotM T (i : Nat) z = slotOf (ksOf T i) z := by
  unfold slotM
  rw [if_neg (by omega), Int.toNat_natCast]
theorem tslot_calls (h : TSh w X tb tp mp T A i S av sv) (ht : Tr w B tp D F T) (x : Val) (hx : x.s.size ≤ maxLen) : Calls Try.prog 123 #[.pointer (some ⟨tb, 0, none⟩), x.v] w fun e w' => e = .returned (.tuple #[.int .i64 ((slotX T i x).getD 0 : Nat), .bool (slotX T i x).isSome]) ∧ Below w.heap.size w w' := by
  have hb : Below w.heap.size w (w.alloc (.cells #[.int .i64 x.k, .int .i64 x.n, .string x.s] 57)) := (Below.refl _ _).alloc (Nat.le_refl _) _
  have HB := Lib.hid hb
  have HS := Lib.hid (fun (n : Nat) => Calls.quiet_of_same (((ht.below (Below.drewN hb n)).slot i x.s hx).mono fun _ _ h => ⟨h.1, h.2.symm⟩))
  rw [slotM_in h.lti] at HS
  have c1 := (h.below hb).hd.cell 1 _ rfl
  have c3 := (h.below hb).hd.cell 3 _ rfl
  clear h ht hx hb
  obtain ⟨x1, x2, x3⟩ := x
  by_cases h1 : x1 = 3
  · subst h1
    have e : slotX T i ⟨3, x2, x3⟩ = slotOf (ksOf T i) x3 := rfl
    rw [e]
    dsimp only at HS
    generalize (slotOf (ksOf T i) x3).getD 0 = m at *
    generalize (slotOf (ksOf T i) x3).isSome = o at *
    clear e
    go_enter Try.func123, Try.ntmps123
    go_upto_region 3 with (fail)
    go_quiet ((go_at_call 34; with_reducible exact HS.out _))
    go_wp2
    go_ret2
    exact ⟨rfl, Below.drewN HB.out _⟩
  · have e : slotX T i ⟨x1, x2, x3⟩ = none := if_neg h1
    rw [e]
    have h1' : (x1 != 3) = true := by simp [h1]
    clear HS e
    go_enter Try.func123, Try.ntmps123
    go_wp2
    go_ret2
    exact ⟨rfl, HB.out⟩
end
end Go.Proofs.Ytmjfmfelbmbniaa

/- Layer 14: Get. -/
namespace Go.Proofs.Ytmjfmfelbmbniaa
open Go.RowKit Go.Maps HK ShM
set_option linter.unusedVariables false
set_option linter.unusedSimpArgs false
theorem tget_nil (x : Val) (w : World) : Calls Try.prog 67 #[.pointer none, x.v] w fun e w' => e = .returned Val.nil.v ∧ Below w.heap.size w w' := by
  have HB0 : Hid (Below w.heap.size w ((w.alloc (.cells #[.int .i64 x.k, .int .i64 x.n, .string x.s] 57)).alloc (.cells #[.int .i64 0, .int .i64 0, .string ⟨#[]⟩] 57))) := Lib.hid (by (repeat (first | exact Below.refl _ _ | (refine Below.alloc ?_ (by simp <;> omega) _))))
  have HBK : Hid (Blk ((w.alloc (.cells #[.int .i64 x.k, .int .i64 x.n, .string x.s] 57)).alloc (.cells #[.int .i64 0, .int .i64 0, .string ⟨#[]⟩] 57)) (w.heap.size + 1) 57 [.int .i64 0, .int .i64 0, .string ⟨#[]⟩]) := Lib.hid (by
    simpa using Blk.new (w.alloc (.cells #[.int .i64 x.k, .int .i64 x.n, .string x.s] 57)) [.int .i64 0, .int .i64 0, .string ⟨#[]⟩] 57)
  obtain ⟨x1, x2, x3⟩ := x
  go_enter Try.func67, Try.ntmps67
  go_wp2
  refine bodyPost_ret (results_val (x := Val.nil) rfl _ rfl HBK.out) rfl ⟨rfl, HB0.out⟩
section
variable {w w' : World} {X Y B : Nat → Prop} {tb i M N d : Nat} {tp mp av sv : Value} {T : List Sh} {A S : List Val} {R : Pairs} {s : Tab} {D F : Int}
set_option maxHeartbeats 4000000 in
set_option maxRecDepth 20000 in
theorem tget_calls (h : TAt w X tb tp mp T s N) (ht : Tr w B tp D F T) (x : Val) (hx : x.s.size ≤ maxLen) (hN : N ≤ 1000000) : Calls Try.prog 67 #[.pointer (some ⟨tb, 0, none⟩), x.v] w fun e w' => e = .returned (tgetM s x).v ∧ Below w.heap.size w w' := by
  have HB0 : Hid (Below w.heap.size w ((w.alloc (.cells #[.int .i64 x.k, .int .i64 x.n, .string x.s] 57)).alloc (.cells #[.int .i64 0, .int .i64 0, .string ⟨#[]⟩] 57))) := Lib.hid (by (repeat (first | exact Below.refl _ _ | (refine Below.alloc ?_ (by simp <;> omega) _))))
  have HBK : Hid (Blk ((w.alloc (.cells #[.int .i64 x.k, .int .i64 x.n, .string x.s] 57)).alloc (.cells #[.int .i64 0, .int .i64 0, .string ⟨#[]⟩] 57)) (w.heap.size + 1) 57 [.int .i64 0, .int .i64 0, .string ⟨#[]⟩]) := Lib.hid (by
    simpa using Blk.new (w.alloc (.cells #[.int .i64 x.k, .int .i64 x.n, .string x.s] 57)) [.int .i64 0, .int .i64 0, .string ⟨#[]⟩] 57)
  have HXK : Hid (Blk ((w.alloc (.cells #[.int .i64 x.k, .int .i64 x.n, .string x.s] 57)).alloc (.cells #[.int .i64 0, .int .i64 0, .string ⟨#[]⟩] 57)) w.heap.size 57 [.int .i64 x.k, .int .i64 x.n, .string x.s]) := Lib.hid ((Blk.new w [.int .i64 x.k, .int .i64 x.n, .string x.s] 57).alloc _)
  have HT := Lib.hid h
  obtain ⟨h0, hc⟩ := h
  obtain ⟨av, sv, rp, hhd, harr, _⟩ := HT.out.head
  obtain ⟨a, c, rfl, hc1, hc2⟩ := harr.form
  have hAl : s.A.length ≤ 1048576 := by omega
  have HA1 := Lib.hid (fun (W : World) (hW : Below w.heap.size w W) => array1_calls (w := W) a s.A.length c x ((hhd.of (hW.block _ hhd.lt)).cell 0 _ rfl) hAl s.A rfl)
  have HHD := Lib.hid hhd
  have HAR := Lib.hid harr
  clear hhd harr
  cases hin : inA s.A x with
  | true =>
    have hM : tgetM s x = s.A.getD (x.n - 1).toNat Val.nil := by unfold tgetM; rw [hin]; rfl
    have hi : x.k = 2 ∧ 1 ≤ x.n ∧ x.n ≤ (s.A.length : Int) := by
      unfold inA at hin
      simp only [Bool.and_eq_true, decide_eq_true_eq] at hin
      exact ⟨hin.1.1, hin.1.2, hin.2⟩
    obtain ⟨j, hj⟩ : ∃ j : Nat, x.n - 1 = (j : Int) := ⟨(x.n - 1).toNat, by omega⟩
    have hjl : j < s.A.length := by omega
    have hv : s.A[j]? = some s.A[j] := List.getElem?_eq_getElem hjl
    rw [hM, hj, Int.toNat_natCast, List.getD_eq_getElem?_getD, hv, Option.getD_some]
    rw [hin, if_pos rfl, hj] at HA1
    have HCELL := Lib.hid (fun (W : World) (hW : Below w.heap.size w W) => (HAR.out.below hW).cell hv)
    generalize s.A[j] = gv at *
    obtain ⟨g1, g2, g3⟩ := gv
    obtain ⟨n, hn⟩ : ∃ n, n = s.A.length := ⟨_, rfl⟩
    rw [← hn] at hc1 hjl hAl HHD HAR HCELL
    have hj0 : (0 : Int) ≤ (j : Int) := by omega
    have hj1 : (j : Int) < (n : Int) := by omega
    obtain ⟨x1, x2, x3⟩ := x
    clear hc h0 hi hM hv hn hin hx
    go_enter Try.func67, Try.ntmps67
    go_wp2_with (go_at_call 119; (with_reducible refine (HA1.out _ HB0.out).mono ?_); rintro e w1 ⟨rfl, hb⟩; have HB1 := Lib.hid (HB0.out.trans (hb.mono HB0.out.size)); have HBK1 := Lib.hid (HBK.out.of (hb.block _ HBK.out.lt)); clear hb; have c0 := (HHD.out.of (HB1.out.block _ HHD.out.lt)).cell 0 _ rfl; obtain ⟨g, cap, he, hcl⟩ := HCELL.out _ HB1.out; cases he; have u0 := hcl 0 _ (by decide) rfl; have u1 := hcl 1 _ (by decide) rfl; have u2 := hcl 2 _ (by decide) rfl; rw [Nat.add_zero] at u0; clear hcl; have x0 := HBK1.out.cell 0 _ rfl; have x1' := HBK1.out.cell 1 _ rfl; have x2' := HBK1.out.cell 2 _ rfl; have f0 := HBK1.out.frozen 0; have f1 := HBK1.out.frozen 1; have f2 := HBK1.out.frozen 2)
    refine bodyPost_ret (results_val (x := ⟨g1, g2, g3⟩) rfl _ rfl (((HBK1.out.setSame 0 _).setSame 1 _).setSame 2 _)) rfl ⟨rfl, ?_⟩
    exact ((HB1.out.setCell (by simp) _).setCell (by simp) _).setCell (by simp) _
  | false =>
    have hM : tgetM s x = getV s.R x := by unfold tgetM; rw [hin]; rfl
    rw [hM]
    rw [hin, if_neg (by decide)] at HA1
    clear hM hin
    rcases hc with ⟨hh, S, av', sv', hs, hR⟩ | ⟨hh, hi0, av', d, Y, hs⟩
    · rw [hR]
      obtain ⟨sa, sc, hsv, hsc1, hsc2⟩ := hs.slo.form
      subst hsv
      have HSH := Lib.hid hs
      have HSL := Lib.hid (fun (W : World) (hW : Below w.heap.size w W) => tslot_calls (hs.below hW) (ht.below hW) x hx)
      obtain ⟨R1, hR1⟩ : ∃ R, getV (strPairs (ksOf T s.i) S) x = R := ⟨_, rfl⟩
      rw [hR1]
      by_cases hk : x.k = 3
      · obtain ⟨h1, h2⟩ := hasK_str hs.len hs.nd hk
        have hsx : slotX T s.i x = slotOf (ksOf T s.i) x.s := if_pos hk
        rw [hsx] at HSL
        cases hsl : slotOf (ksOf T s.i) x.s with
        | some j =>
          obtain ⟨gv, hgv, hge⟩ := h2 j hsl
          rw [hR1] at hge
          subst hge
          rw [hsl] at HSL
          have hjl := (List.getElem?_eq_some_iff.1 hgv).1
          have HCELL := Lib.hid (fun (W : World) (hW : Below w.heap.size w W) => (HSH.out.slo.below hW).cell hgv)
          obtain ⟨n, hn⟩ : ∃ n, n = S.length := ⟨_, rfl⟩
          have EN := Lib.hid hn
          rw [← hn] at hjl hsc1
          have hj0 : (0 : Int) ≤ (j : Int) := by omega
          have hj1 : (j : Int) < (n : Int) := by omega
          obtain ⟨g1, g2, g3⟩ := R1
          obtain ⟨x1, x2, x3⟩ := x
          clear h1 h2 hsx hgv hn hsl hs hR hx h0 hR1 hk
          go_enter Try.func67, Try.ntmps67
          go_wp2_with (first
            | (go_at_call 119; (with_reducible refine (HA1.out _ HB0.out).mono ?_); rintro e w1 ⟨rfl, hb⟩; have HB1 := Lib.hid (HB0.out.trans (hb.mono HB0.out.size)); have HBK1 := Lib.hid (HBK.out.of (hb.block _ HBK.out.lt)); have HXK1 := Lib.hid (HXK.out.of (hb.block _ HXK.out.lt)); clear hb; have c2 := (HSH.out.below HB1.out).hd.cell 2 _ rfl; have z0 := HXK1.out.cell 0 _ rfl; have z1 := HXK1.out.cell 1 _ rfl; have z2 := HXK1.out.cell 2 _ rfl)
            | (go_at_call 123; (with_reducible refine (HSL.out _ HB1.out).mono ?_); rintro e w2 ⟨rfl, hb⟩; have HB2 := Lib.hid (HB1.out.trans (hb.mono HB1.out.size)); have HBK2 := Lib.hid (HBK1.out.of (hb.block _ HBK1.out.lt)); clear hb; have c4 := (HSH.out.below HB2.out).hd.cell 4 _ rfl; rw [← EN.out] at c4; obtain ⟨g, cap, he, hcl⟩ := HCELL.out _ HB2.out; cases he; have u0 := hcl 0 _ (by decide) rfl; have u1 := hcl 1 _ (by decide) rfl; have u2 := hcl 2 _ (by decide) rfl; rw [Nat.add_zero] at u0; clear hcl; have x0 := HBK2.out.cell 0 _ rfl; have x1' := HBK2.out.cell 1 _ rfl; have x2' := HBK2.out.cell 2 _ rfl; have f0 := HBK2.out.frozen 0; have f1 := HBK2.out.frozen 1; have f2 := HBK2.out.frozen 2))
          refine bodyPost_ret (results_val (x := ⟨g1, g2, g3⟩) rfl _ rfl (((HBK2.out.setSame 0 _).setSame 1 _).setSame 2 _)) rfl ⟨rfl, ?_⟩
          exact ((HB2.out.setCell (by simp) _).setCell (by simp) _).setCell (by simp) _
        | none =>
          rw [hsl] at h1 HSL
          have hnil : R1 = Val.nil := by rw [← hR1]; exact getV_miss h1
          subst hnil
          obtain ⟨x1, x2, x3⟩ := x
          clear h1 h2 hsx hsl hs hR hx h0 hR1 hk
          go_enter Try.func67, Try.ntmps67
          go_wp2_with (first
            | (go_at_call 119; (with_reducible refine (HA1.out _ HB0.out).mono ?_); rintro e w1 ⟨rfl, hb⟩; have HB1 := Lib.hid (HB0.out.trans (hb.mono HB0.out.size)); have HBK1 := Lib.hid (HBK.out.of (hb.block _ HBK.out.lt)); have HXK1 := Lib.hid (HXK.out.of (hb.block _ HXK.out.lt)); clear hb; have c2 := (HSH.out.below HB1.out).hd.cell 2 _ rfl; have z0 := HXK1.out.cell 0 _ rfl; have z1 := HXK1.out.cell 1 _ rfl; have z2 := HXK1.out.cell 2 _ rfl)
            | (go_at_call 123; (with_reducible refine (HSL.out _ HB1.out).mono ?_); rintro e w2 ⟨rfl, hb⟩; have HB2 := Lib.hid (HB1.out.trans (hb.mono HB1.out.size)); have HBK2 := Lib.hid (HBK1.out.of (hb.block _ HBK1.out.lt)); clear hb; have x0 := HBK2.out.cell 0 _ rfl; have x1' := HBK2.out.cell 1 _ rfl; have x2' := HBK2.out.cell 2 _ rfl; have f0 := HBK2.out.frozen 0; have f1 := HBK2.out.frozen 1; have f2 := HBK2.out.frozen 2))
          refine bodyPost_ret (results_val (x := Val.nil) rfl _ rfl (((HBK2.out.setSame 0 _).setSame 1 _).setSame 2 _)) rfl ⟨rfl, ?_⟩
          exact ((HB2.out.setCell (by simp) _).setCell (by simp) _).setCell (by simp) _
      · have hsx : slotX T s.i x = none := if_neg hk
        rw [hsx] at HSL
        have hnil : R1 = Val.nil := by rw [← hR1]; exact getV_miss (hasK_other hk)
        subst hnil
        obtain ⟨x1, x2, x3⟩ := x
        clear hsx hs hR hx h0 hR1 hk
        go_enter Try.func67, Try.ntmps67
        go_wp2_with (first
          | (go_at_call 119; (with_reducible refine (HA1.out _ HB0.out).mono ?_); rintro e w1 ⟨rfl, hb⟩; have HB1 := Lib.hid (HB0.out.trans (hb.mono HB0.out.size)); have HBK1 := Lib.hid (HBK.out.of (hb.block _ HBK.out.lt)); have HXK1 := Lib.hid (HXK.out.of (hb.block _ HXK.out.lt)); clear hb; have c2 := (HSH.out.below HB1.out).hd.cell 2 _ rfl; have z0 := HXK1.out.cell 0 _ rfl; have z1 := HXK1.out.cell 1 _ rfl; have z2 := HXK1.out.cell 2 _ rfl)
          | (go_at_call 123; (with_reducible refine (HSL.out _ HB1.out).mono ?_); rintro e w2 ⟨rfl, hb⟩; have HB2 := Lib.hid (HB1.out.trans (hb.mono HB1.out.size)); have HBK2 := Lib.hid (HBK1.out.of (hb.block _ HBK1.out.lt)); clear hb; have x0 := HBK2.out.cell 0 _ rfl; have x1' := HBK2.out.cell 1 _ rfl; have x2' := HBK2.out.cell 2 _ rfl; have f0 := HBK2.out.frozen 0; have f1 := HBK2.out.frozen 1; have f2 := HBK2.out.frozen 2))
        refine bodyPost_ret (results_val (x := Val.nil) rfl _ rfl (((HBK2.out.setSame 0 _).setSame 1 _).setSame 2 _)) rfl ⟨rfl, ?_⟩
        exact ((HB2.out.setCell (by simp) _).setCell (by simp) _).setCell (by simp) _
    · have HHA := Lib.hid hs
      have HGT := Lib.hid (fun (W : World) (hW : Below w.heap.size w W) => dget_calls (hs.dict.below hW) x hx)
      generalize getV s.R x = gv at *
      obtain ⟨g1, g2, g3⟩ := gv
      obtain ⟨x1, x2, x3⟩ := x
      clear hs h0 hx hi0
      go_enter Try.func67, Try.ntmps67
      go_upto_region 7 with (go_at_call 119; (with_reducible refine (HA1.out _ HB0.out).mono ?_); rintro e w1 ⟨rfl, hb⟩; have HB1 := Lib.hid (HB0.out.trans (hb.mono HB0.out.size)); have HBK1 := Lib.hid (HBK.out.of (hb.block _ HBK.out.lt)); have HXK1 := Lib.hid (HXK.out.of (hb.block _ HXK.out.lt)); clear hb; have c2 := (HHA.out.below HB1.out).hd.cell 2 _ rfl)
      clear c2
      have hB0 : Below w1.heap.size w1 ({ w1 with drawn := w1.drawn + 1 } : World) := ⟨rfl, rfl, rfl, Nat.le_refl _, fun _ _ => rfl⟩
      refine RG.region_F (Below w1.heap.size w1) 6 (by kernel_rfl) ?_
      have hS0 := hB0
      generalize ({ w1 with drawn := w1.drawn + 1 } : World) = w2 at hS0 hB0 ⊢
      have q5 : ∀ W, Below w1.heap.size w1 W → W.cell? ⟨tb, 5, none⟩ = some (.pointer (some ⟨d, 0, none⟩)) := fun W hW => (HHA.out.below (HB1.out.trans (hW.mono HB1.out.size))).hd.cell 5 _ rfl
      have p0 : ∀ W, Below w1.heap.size w1 W → W.cell? ⟨w.heap.size, 0, none⟩ = some (.int .i64 x1) := fun W hW => (HXK1.out.of (hW.block _ HXK1.out.lt)).cell 0 _ rfl
      have p1 : ∀ W, Below w1.heap.size w1 W → W.cell? ⟨w.heap.size, 1, none⟩ = some (.int .i64 x2) := fun W hW => (HXK1.out.of (hW.block _ HXK1.out.lt)).cell 1 _ rfl
      have p2 : ∀ W, Below w1.heap.size w1 W → W.cell? ⟨w.heap.size, 2, none⟩ = some (.string x3) := fun W hW => (HXK1.out.of (hW.block _ HXK1.out.lt)).cell 2 _ rfl
      refine RG.takeF 0 (oi := ⟨some 31, _, _, _, _, _⟩) (v := ?_) rfl (by kernel_rfl) (by kernel_rfl) (by kernel_rfl) (by kernel_rfl) (fun _ _ _ h => h) (Or.inl ⟨by rfl, ?hyA0⟩) hS0 ?restA0
      case hyA0 => (intro W hW; (try dsimp only at hW); go_simp; try with_reducible rfl)
      try simp only [Act.put, List.setIfInBounds_toArray, List.set_cons_zero, List.set_cons_succ]
      refine RG.takeF 1 (oi := ⟨some 32, _, _, _, _, _⟩) (v := ?_) rfl (by kernel_rfl) (by kernel_rfl) (by kernel_rfl) (by kernel_rfl) (fun _ _ _ h => h) (Or.inl ⟨by rfl, ?hyA1⟩) hS0 ?restA1
      case hyA1 => (intro W hW; (try dsimp only at hW); go_simp; try with_reducible rfl)
      try simp only [Act.put, List.setIfInBounds_toArray, List.set_cons_zero, List.set_cons_succ]
      refine RG.takeF 2 (oi := ⟨some 33, _, _, _, _, _⟩) (v := ?_) rfl (by kernel_rfl) (by kernel_rfl) (by kernel_rfl) (by kernel_rfl) (fun _ _ _ h => h) (Or.inl ⟨by rfl, ?hyA2⟩) hS0 ?restA2
      case hyA2 => (intro W hW; (try dsimp only at hW); go_simp; try with_reducible rfl)
      try simp only [Act.put, List.setIfInBounds_toArray, List.set_cons_zero, List.set_cons_succ]
      refine RG.takeF 3 (oi := ⟨some 34, _, _, _, _, _⟩) (v := ?_) rfl (by kernel_rfl) (by kernel_rfl) (by kernel_rfl) (by kernel_rfl) (fun _ _ _ h => h) (Or.inl ⟨by rfl, ?hyA3⟩) hS0 ?restA3
      case hyA3 => (intro W hW; (try dsimp only at hW); go_simp; try with_reducible rfl)
      try simp only [Act.put, List.setIfInBounds_toArray, List.set_cons_zero, List.set_cons_succ]
      refine RG.takeF 4 (oi := ⟨some 35, _, _, _, _, _⟩) (v := ?_) rfl (by kernel_rfl) (by kernel_rfl) (by kernel_rfl) (by kernel_rfl) (fun _ _ _ h => h) (Or.inl ⟨by rfl, ?hyA4⟩) hS0 ?restA4
      case hyA4 => (intro W hW; (try dsimp only at hW); go_simp; try with_reducible rfl)
      try simp only [Act.put, List.setIfInBounds_toArray, List.set_cons_zero, List.set_cons_succ]
      refine RG.oneF 5 (by kernel_rfl) (by decide) ?_
      refine RG.wpOp_wanted rfl (by rfl) fun K hK => ?_
      go_simp
      with_reducible refine (HGT.out _ (HB1.out.trans (hB0.mono HB1.out.size))).mono ?_
      rintro e w3 ⟨rfl, hb⟩
      have hS3 : Below w1.heap.size w1 w3 := hS0.trans (hb.mono hS0.size)
      have HB3 := Lib.hid (HB1.out.trans (hS3.mono HB1.out.size))
      have HBK3 := Lib.hid (HBK1.out.of (hS3.block _ HBK1.out.lt))
      clear hb
      refine hK _ _ ⟨hS3, ?_⟩
      clear hK K
      try simp only [Act.put, List.setIfInBounds_toArray, List.set_cons_zero, List.set_cons_succ]
      have x0 := HBK3.out.cell 0 _ rfl
      have x1' := HBK3.out.cell 1 _ rfl
      have x2' := HBK3.out.cell 2 _ rfl
      have f0 := HBK3.out.frozen 0
      have f1 := HBK3.out.frozen 1
      have f2 := HBK3.out.frozen 2
      clear q5 p0 p1 p2
      refine RG.lastF (by kernel_rfl) (by kernel_rfl) ?_
      refine RG.wpOp_wanted rfl (by rfl) fun K hK => ?_
      go_simp
      refine hK _ _ ?_
      clear hK K
      try simp only [Act.put, List.setIfInBounds_toArray, List.set_cons_zero, List.set_cons_succ]
      go_wp2
      refine bodyPost_ret (results_val (x := ⟨g1, g2, g3⟩) rfl _ rfl (((HBK3.out.setSame 0 _).setSame 1 _).setSame 2 _)) rfl ⟨rfl, ?_⟩
      exact ((HB3.out.setCell (by simp) _).setCell (by simp) _).setCell (by simp) _
end
end Go.Proofs.Ytmjfmfelbmbniaa

/- Layer 14: has, At, Put, Slot. -/
namespace Go.Proofs.Ytmjfmfelbmbniaa
open Go.RowKit Go.Maps HK ShM
set_option linter.unusedVariables false
set_option linter.unusedSimpArgs false
def hasS (s : Tab) (j : Int) : Bool := !s.h && decide (0 ≤ j) && decide (j < (s.R.length : Int))
def tatM (s : Tab) (j : Int) : Val := if hasS s j then ((s.R[j.toNat]?).map (·.2)).getD Val.nil else Val.nil
def tputM (s : Tab) (j : Int) (v : Val) : Tab := if hasS s j then { s with R := s.R.set j.toNat (((s.R[j.toNat]?).map (·.1)).getD Val.nil, v.own) } else s
def slotK (T : List Sh) (s : Tab) (z : ByteArray) : Option Nat := if s.h then none else slotOf (ksOf T s.i) z
theorem hasS_no {s : Tab} {j : Int} (h : ¬ (0 ≤ j ∧ j < (s.R.length : Int)) ∨ s.h = true) : hasS s j = false := by
  unfold hasS
  rcases h with h | h
  · by_cases h1 : 0 ≤ j
    · have h2 : ¬ j < (s.R.length : Int) := fun h2 => h ⟨h1, h2⟩
      simp [h2]
    · simp [h1]
  · simp [h]
section
variable {w w' : World} {X Y B : Nat → Prop} {tb i M N d : Nat} {tp mp av sv : Value} {T : List Sh} {A S : List Val} {R : Pairs} {s : Tab} {D F : Int}
/-- What 'has' reads: the slots' field. -/
theorem has_calls (a : Option Addr) (n c : Nat) (c4 : w.cell? ⟨tb, 4, none⟩ = some (.slice a n c)) (j : Int) : Calls Try.prog 122 #[.pointer (some ⟨tb, 0, none⟩), .int .i64 j] w fun e w' => e = .returned (.bool (decide (0 ≤ j) && decide (j < (n : Int)))) ∧ w = w' := by
  by_cases h1 : 0 ≤ j
  · have h1' : decide (0 ≤ j) = true := decide_eq_true h1
    go_enter Try.func122, Try.ntmps122
    go_wp2
    go_ret
    exact ⟨by rw [h1']; rfl, rfl⟩
  · have h1' : decide (0 ≤ j) = false := decide_eq_false h1
    go_enter Try.func122, Try.ntmps122
    go_wp2
    go_ret
    exact ⟨by simp, rfl⟩
/-- The slots' field, whichever way the table is kept. -/
theorem TAt.slots (h : TAt w X tb tp mp T s N) : ∃ (S : Nat) (sv : Value × Value) (a : Option Addr) (c : Nat), Blk w tb 202 [sv.1, tp, .int .i64 (if s.h then 2 else 1), .int .i64 (if s.h then -1 else (s.i : Int)), .slice a S c, sv.2, mp] ∧ (if s.h then S = 0 else S = s.R.length) := by
  obtain ⟨h0, ⟨h1, S, av, sv, h2, h3⟩ | ⟨h1, h2, av, d, Y, h3⟩⟩ := h
  · obtain ⟨a, c, rfl, _⟩ := h2.slo.form
    refine ⟨S.length, (av, .pointer none), a, c, by rw [h1]; exact h2.hd, ?_⟩
    rw [h1, h3, strPairs_len h2.len, h2.len]; rfl
  · exact ⟨0, (av, .pointer (some ⟨d, 0, none⟩)), none, 0, by rw [h1]; exact h3.hd, by rw [h1]; rfl⟩
theorem thas_calls (h : TAt w X tb tp mp T s N) (j : Int) : Calls Try.prog 122 #[.pointer (some ⟨tb, 0, none⟩), .int .i64 j] w fun e w' => e = .returned (.bool (hasS s j)) ∧ w = w' := by
  obtain ⟨n, sv, a, c, hb, hn⟩ := h.slots
  refine (has_calls a n c (hb.cell 4 _ rfl) j).mono ?_
  rintro e w' ⟨rfl, rfl⟩
  refine ⟨?_, rfl⟩
  cases hh : s.h with
  | true =>
    rw [hh] at hn
    have hn : n = 0 := hn
    subst hn
    rw [hasS_no (.inr hh)]
    by_cases h1 : 0 ≤ j
    · have : ¬ j < ((0 : Nat) : Int) := by omega
      simp [this]
    · simp [h1]
  | false =>
    rw [hh] at hn
    have hn : n = s.R.length := hn
    subst hn
    unfold hasS
    rw [hh]; rfl
set_option maxHeartbeats 2000000 in
theorem tat_calls (h : TAt w X tb tp mp T s N) (j : Int) : Calls Try.prog 66 #[.pointer (some ⟨tb, 0, none⟩), .int .i64 j] w fun e w' => e = .returned (tatM s j).v ∧ Below w.heap.size w w' := by
  have HB0 : Hid (Below w.heap.size w (w.alloc (.cells #[.int .i64 0, .int .i64 0, .string ⟨#[]⟩] 57))) := Lib.hid ((Below.refl _ _).alloc (Nat.le_refl _) _)
  have HBK : Hid (Blk (w.alloc (.cells #[.int .i64 0, .int .i64 0, .string ⟨#[]⟩] 57)) w.heap.size 57 [.int .i64 0, .int .i64 0, .string ⟨#[]⟩]) := Lib.hid (Blk.new w [.int .i64 0, .int .i64 0, .string ⟨#[]⟩] 57)
  have HH := Lib.hid (thas_calls (h.below HB0.out) j)
  have hM : Hid (tatM s j = if hasS s j then ((s.R[j.toNat]?).map (·.2)).getD Val.nil else Val.nil) := Lib.hid rfl
  obtain ⟨R1, hR1⟩ : ∃ R, tatM s j = R := ⟨_, rfl⟩
  rw [hR1] at hM ⊢
  cases hs : hasS s j with
  | false =>
    rw [hs] at HH hM
    have hM : R1 = Val.nil := hM.out
    subst hM
    clear h hR1 hs
    go_enter Try.func66, Try.ntmps66
    go_wp2_with (go_at_call 122; (with_reducible refine HH.out.mono ?_); rintro e w1 ⟨rfl, rfl⟩)
    refine bodyPost_ret (results_val (x := Val.nil) rfl _ rfl HBK.out) rfl ⟨rfl, HB0.out⟩
  | true =>
    have hs' := hs
    unfold hasS at hs'
    simp only [Bool.and_eq_true, Bool.not_eq_true', decide_eq_true_eq] at hs'
    obtain ⟨⟨hh, hj0⟩, hj1⟩ := hs'
    rw [hs] at HH hM
    obtain ⟨h0, ⟨_, S, av, sv, h2, h3⟩ | ⟨h1, _⟩⟩ := h
    · obtain ⟨k, rfl⟩ : ∃ k : Nat, j = k := ⟨j.toNat, by omega⟩
      have hl := h2.len
      have hlr := strPairs_len h2.len
      rw [h3] at hj1
      have hks : (ksOf T s.i)[k]? = some (ksOf T s.i)[k] := List.getElem?_eq_getElem (by omega)
      have hS : S[k]? = some S[k] := List.getElem?_eq_getElem (by omega)
      have hR : s.R[k]? = some (strV (ksOf T s.i)[k], S[k]) := by rw [h3]; exact strPairs_at hks hS
      have hM : R1 = S[k] := by rw [hM.out, Int.toNat_natCast, hR]; rfl
      rw [← hM] at hS
      obtain ⟨sa, sc, hsv, hsc1, hsc2⟩ := h2.slo.form
      subst hsv
      have c4 := (h2.below HB0.out).hd.cell 4 _ rfl
      obtain ⟨g, cap, he, hcl⟩ := (h2.below HB0.out).slo.cell hS
      cases he
      have u0 := hcl 0 _ (by decide) rfl
      have u1 := hcl 1 _ (by decide) rfl
      have u2 := hcl 2 _ (by decide) rfl
      rw [Nat.add_zero] at u0
      have hk0 : (0 : Int) ≤ (k : Int) := hj0
      have hk1 : (k : Int) < (S.length : Int) := by omega
      have hk2 : k < S.length := by omega
      clear hR hks h2 h3 h0 hcl hM hS hj1 hlr hl hs hR1 hh
      generalize S.length = n at *
      have x0 := HBK.out.cell 0 _ rfl
      have x1 := HBK.out.cell 1 _ rfl
      have x2 := HBK.out.cell 2 _ rfl
      have f0 := HBK.out.frozen 0
      have f1 := HBK.out.frozen 1
      have f2 := HBK.out.frozen 2
      obtain ⟨g1, g2, g3⟩ := R1
      go_enter Try.func66, Try.ntmps66
      go_wp2_with (go_at_call 122; (with_reducible refine HH.out.mono ?_); rintro e w1 ⟨rfl, rfl⟩)
      refine bodyPost_ret (results_val (x := ⟨g1, g2, g3⟩) rfl _ rfl (Blk.new w [.int .i64 g1, .int .i64 g2, .string g3] 57)) rfl ⟨rfl, (Below.refl _ _).alloc (Nat.le_refl _) _⟩
    · rw [h1] at hh; cases hh
theorem tslotK_calls (h : TAt w X tb tp mp T s N) (ht : Tr w B tp D F T) (z : ByteArray) (hz : z.size ≤ maxLen) : Calls Try.prog 132 #[.pointer (some ⟨tb, 0, none⟩), .string z] w fun e w' => e = .returned (.tuple #[.int .i64 ((slotK T s z).getD 0 : Nat), .bool (slotK T s z).isSome]) ∧ Below w.heap.size w w' := by
  have HO := Lib.hid (fun (W : World) => ofStr_calls z W)
  obtain ⟨h0, ⟨hh, S, av, sv, h2, h3⟩ | ⟨hh, _, av, d, Y, h3⟩⟩ := h
  · have HS := Lib.hid (fun (W : World) (hW : Below w.heap.size w W) => tslot_calls (h2.below hW) (ht.below hW) (strV z) hz)
    have e : slotX T s.i (strV z) = slotK T s z := by unfold slotX slotK; rw [hh]; rfl
    rw [e] at HS
    generalize (slotK T s z).getD 0 = m at *
    generalize (slotK T s z).isSome = o at *
    have c2 := h2.hd.cell 2 _ rfl
    clear e h2 h3 h0 ht
    go_enter Try.func132, Try.ntmps132
    go_wp2_with (first
      | (go_at_call 54; (with_reducible refine (HO.out _).mono ?_); rintro e w1 ⟨rfl, hb⟩; have HB1 := Lib.hid hb; clear hb)
      | (go_at_call 123; (with_reducible refine (HS.out _ HB1.out).mono ?_); rintro e w2 ⟨rfl, hb⟩; have HB2 := Lib.hid (HB1.out.trans (hb.mono HB1.out.size)); clear hb))
    go_ret2
    exact ⟨rfl, HB2.out⟩
  · have e : slotK T s z = none := by unfold slotK; rw [hh]; rfl
    rw [e]
    have c2 := h3.hd.cell 2 _ rfl
    clear e h3 h0 ht
    go_enter Try.func132, Try.ntmps132
    go_wp2_with fail
    go_ret2
    exact ⟨rfl, Below.refl _ _⟩
theorem flatV_set : ∀ {l : List Val} {j : Nat} {u : Val} (v : Val), l[j]? = some u → (((flatV l).set (j * 3) (.int .i64 v.k)).set (j * 3 + 1) (.int .i64 v.n)).set (j * 3 + 2) (.string v.s) = flatV (l.set j v)
  | [], j, u, v, h => by simp at h
  | y :: r, 0, u, v, h => by
    show (((.int .i64 y.k :: .int .i64 y.n :: .string y.s :: flatV r).set _ _).set _ _).set _ _ = .int .i64 v.k :: .int .i64 v.n :: .string v.s :: flatV r
    simp
  | y :: r, j + 1, u, v, h => by
    have ih := flatV_set (l := r) (j := j) (u := u) v (by simpa using h)
    show (((.int .i64 y.k :: .int .i64 y.n :: .string y.s :: flatV r).set _ _).set _ _).set _ _ = .int .i64 y.k :: .int .i64 y.n :: .string y.s :: flatV (r.set j v)
    rw [← ih, show (j + 1) * 3 = j * 3 + 1 + 1 + 1 by omega, show j * 3 + 1 + 1 + 1 + 1 = (j * 3 + 1) + 1 + 1 + 1 by omega, show j * 3 + 1 + 1 + 1 + 2 = (j * 3 + 2) + 1 + 1 + 1 by omega]
    simp only [List.set_cons_succ]
theorem OwnV.set {base g cap j : Nat} {l : List Val} {u v : Val} (h : OwnV w base (.slice (some ⟨g, 0, none⟩) l.length cap) l) (hj : l[j]? = some u) :
    OwnV (((w.setCell ⟨g, j * 3, none⟩ (.int .i64 v.k)).setCell ⟨g, j * 3 + 1, none⟩ (.int .i64 v.n)).setCell ⟨g, j * 3 + 2, none⟩ (.string v.s)) base (.slice (some ⟨g, 0, none⟩) l.length cap) (l.set j v) := by
  have hlt := (List.getElem?_eq_some_iff.1 hj).1
  have hlen := flatV_len l
  unfold OwnV at h ⊢
  rw [List.length_set, ← flatV_set v hj]
  exact row_set (row_set (row_set h (by omega) _) (by simp; omega) _) (by simp; omega) _
/-- Three cells of a row of the table's are written. -/
theorem TSh.setSlot {j g cap : Nat} {u v : Val} (h : TSh w X tb tp mp T A i S av (.slice (some ⟨g, 0, none⟩) S.length cap)) (hj : S[j]? = some u) :
    TSh (((w.setCell ⟨g, j * 3, none⟩ (.int .i64 v.k)).setCell ⟨g, j * 3 + 1, none⟩ (.int .i64 v.n)).setCell ⟨g, j * 3 + 2, none⟩ (.string v.s)) X tb tp mp T A i (S.set j v) av (.slice (some ⟨g, 0, none⟩) S.length cap) := by
  have hg : tb ≠ g := blk_ne_row h.hd h.slo rfl (by decide)
  refine { h with hd := ((h.hd.setOther hg _).setOther hg _).setOther hg _, arr := ?_, slo := h.slo.set hj, len := by rw [List.length_set]; exact h.len, lt := fun b hX => by simpa using h.lt b hX }
  exact h.arr.of (fun b hb => by
    have : b ≠ g := fun e => h.ne b hb (by rw [e]; rfl)
    rw [Below.heap_setCell _ _ _ _ this, Below.heap_setCell _ _ _ _ this, Below.heap_setCell _ _ _ _ this])
set_option maxHeartbeats 4000000 in
set_option maxRecDepth 20000 in
theorem tput_calls (h : TAt w X tb tp mp T s N) (j : Int) (v : Val) : Calls Try.prog 68 #[.pointer (some ⟨tb, 0, none⟩), .int .i64 j, v.v] w fun e w' => e = .returned (.bool (hasS s j)) ∧ TAt w' X tb tp mp T (tputM s j v) N ∧ Chg X w w' := by
  have HB0 : Hid (Below w.heap.size w (w.alloc (.cells #[.int .i64 v.k, .int .i64 v.n, .string v.s] 57))) := Lib.hid ((Below.refl _ _).alloc (Nat.le_refl _) _)
  have HVK : Hid (Blk (w.alloc (.cells #[.int .i64 v.k, .int .i64 v.n, .string v.s] 57)) w.heap.size 57 [.int .i64 v.k, .int .i64 v.n, .string v.s]) := Lib.hid (Blk.new w [.int .i64 v.k, .int .i64 v.n, .string v.s] 57)
  have HH := Lib.hid (thas_calls (h.below HB0.out) j)
  have HT := Lib.hid h
  have HM : Hid (tputM s j v = if hasS s j then { s with R := s.R.set j.toNat (((s.R[j.toNat]?).map (·.1)).getD Val.nil, v.own) } else s) := Lib.hid rfl
  have HO := Lib.hid (fun (W : World) => own_calls v W)
  obtain ⟨R1, hR1⟩ : ∃ R, tputM s j v = R := ⟨_, rfl⟩
  rw [hR1] at HM ⊢
  clear hR1
  cases hs : hasS s j with
  | false =>
    rw [hs] at HH HM
    have hM : R1 = s := HM.out
    subst hM
    clear h hs HM
    obtain ⟨v1, v2, v3⟩ := v
    go_enter Try.func68, Try.ntmps68
    go_wp2_with (go_at_call 122; (with_reducible refine HH.out.mono ?_); rintro e w1 ⟨rfl, rfl⟩)
    go_ret
    exact ⟨rfl, HT.out.below HB0.out, Chg.ofBelow HB0.out⟩
  | true =>
    have hs' := hs
    unfold hasS at hs'
    simp only [Bool.and_eq_true, Bool.not_eq_true', decide_eq_true_eq] at hs'
    obtain ⟨⟨hh, hj0⟩, hj1⟩ := hs'
    rw [hs] at HH HM
    obtain ⟨h0, ⟨_, S, av, sv, h2, h3⟩ | ⟨h1, _⟩⟩ := h
    · obtain ⟨k, rfl⟩ : ∃ k : Nat, j = k := ⟨j.toNat, by omega⟩
      have hl := h2.len
      have hlr := strPairs_len h2.len
      rw [h3] at hj1
      have hks : (ksOf T s.i)[k]? = some (ksOf T s.i)[k] := List.getElem?_eq_getElem (by omega)
      have hS : S[k]? = some S[k] := List.getElem?_eq_getElem (by omega)
      have hR : s.R[k]? = some (strV (ksOf T s.i)[k], S[k]) := by rw [h3]; exact strPairs_at hks hS
      have HRR : Hid (R1 = { s with R := strPairs (ksOf T s.i) (S.set k v.own) }) := Lib.hid (by
        rw [HM.out, if_pos rfl, Int.toNat_natCast, hR, strPairs_set _ hl hks, h3]; rfl)
      obtain ⟨sa, sc, hsv, hsc1, hsc2⟩ := h2.slo.form
      subst hsv
      obtain ⟨g, cap, he, _⟩ := h2.slo.cell hS
      cases he
      have HSH := Lib.hid h2
      have HSK := Lib.hid hS
      have HH0 := Lib.hid (And.intro h0 (And.intro hh (And.intro h3 (And.intro hlr hl))))
      generalize S[k] = u at *
      obtain ⟨m, hm⟩ : ∃ m, m = S.length := ⟨_, rfl⟩
      have EM := Lib.hid hm
      have hk0 : (0 : Int) ≤ (k : Int) := hj0
      have hk1 : (k : Int) < (m : Int) := by omega
      have hk2 : k < m := by omega
      rw [← hm] at hsc1
      generalize v.own = o at *
      obtain ⟨o1, o2, o3⟩ := o
      obtain ⟨v1, v2, v3⟩ := v
      clear hR hks h2 h3 h0 hS hj1 hlr hl hs hh hm HM
      go_enter Try.func68, Try.ntmps68
      go_upto_region 3 with (go_at_call 122; (with_reducible refine HH.out.mono ?_); rintro e w1 ⟨rfl, rfl⟩)
      obtain ⟨w1, hw1⟩ : ∃ z, z = w.alloc (.cells #[.int .i64 v1, .int .i64 v2, .string v3] 57) := ⟨_, rfl⟩
      have HB1 : Hid (Below w.heap.size w w1) := Lib.hid (by rw [hw1]; exact HB0.out)
      have HVK1 : Hid (Blk w1 w.heap.size 57 [.int .i64 v1, .int .i64 v2, .string v3]) := Lib.hid (by rw [hw1]; exact HVK.out)
      rw [← hw1]
      clear hw1
      have hB0 : Below w1.heap.size w1 ({ w1 with drawn := w1.drawn + 1 } : World) := ⟨rfl, rfl, rfl, Nat.le_refl _, fun _ _ => rfl⟩
      refine RG.region_F (Below w1.heap.size w1) 8 (by kernel_rfl) ?_
      have hS0 := hB0
      generalize ({ w1 with drawn := w1.drawn + 1 } : World) = w2 at hS0 hB0 ⊢
      have q4 : ∀ W, Below w1.heap.size w1 W → W.cell? ⟨tb, 4, none⟩ = some (.slice (some ⟨g, 0, none⟩) m sc) := fun W hW => by rw [EM.out]; exact (HSH.out.below (HB1.out.trans (hW.mono HB1.out.size))).hd.cell 4 _ rfl
      have p0 : ∀ W, Below w1.heap.size w1 W → W.cell? ⟨w.heap.size, 0, none⟩ = some (.int .i64 v1) := fun W hW => (HVK1.out.of (hW.block _ HVK1.out.lt)).cell 0 _ rfl
      have p1 : ∀ W, Below w1.heap.size w1 W → W.cell? ⟨w.heap.size, 1, none⟩ = some (.int .i64 v2) := fun W hW => (HVK1.out.of (hW.block _ HVK1.out.lt)).cell 1 _ rfl
      have p2 : ∀ W, Below w1.heap.size w1 W → W.cell? ⟨w.heap.size, 2, none⟩ = some (.string v3) := fun W hW => (HVK1.out.of (hW.block _ HVK1.out.lt)).cell 2 _ rfl
      refine RG.takeF 0 (oi := ⟨some 11, _, _, _, _, _⟩) (v := ?_) rfl (by kernel_rfl) (by kernel_rfl) (by kernel_rfl) (by kernel_rfl) (fun _ _ _ h => h) (Or.inl ⟨by rfl, ?hyA0⟩) hS0 ?restA0
      case hyA0 => (intro W hW; (try dsimp only at hW); go_simp; try with_reducible rfl)
      try simp only [Act.put, List.setIfInBounds_toArray, List.set_cons_zero, List.set_cons_succ]
      refine RG.takeF 1 (oi := ⟨some 12, _, _, _, _, _⟩) (v := ?_) rfl (by kernel_rfl) (by kernel_rfl) (by kernel_rfl) (by kernel_rfl) (fun _ _ _ h => h) (Or.inl ⟨by rfl, ?hyA1⟩) hS0 ?restA1
      case hyA1 => (intro W hW; (try dsimp only at hW); go_simp; try with_reducible rfl)
      try simp only [Act.put, List.setIfInBounds_toArray, List.set_cons_zero, List.set_cons_succ]
      refine RG.takeF 2 (oi := ⟨some 13, _, _, _, _, _⟩) (v := ?_) rfl (by kernel_rfl) (by kernel_rfl) (by kernel_rfl) (by kernel_rfl) (fun _ _ _ h => h) (Or.inl ⟨by rfl, ?hyA2⟩) hS0 ?restA2
      case hyA2 => (intro W hW; (try dsimp only at hW); go_simp; try with_reducible rfl)
      try simp only [Act.put, List.setIfInBounds_toArray, List.set_cons_zero, List.set_cons_succ]
      refine RG.takeF 3 (oi := ⟨some 14, _, _, _, _, _⟩) (v := ?_) rfl (by kernel_rfl) (by kernel_rfl) (by kernel_rfl) (by kernel_rfl) (fun _ _ _ h => h) (Or.inl ⟨by rfl, ?hyA3⟩) hS0 ?restA3
      case hyA3 => (intro W hW; (try dsimp only at hW); go_simp; try with_reducible rfl)
      try simp only [Act.put, List.setIfInBounds_toArray, List.set_cons_zero, List.set_cons_succ]
      refine RG.takeF 4 (oi := ⟨some 15, _, _, _, _, _⟩) (v := ?_) rfl (by kernel_rfl) (by kernel_rfl) (by kernel_rfl) (by kernel_rfl) (fun _ _ _ h => h) (Or.inl ⟨by rfl, ?hyA4⟩) hS0 ?restA4
      case hyA4 => (intro W hW; (try dsimp only at hW); go_simp; try with_reducible rfl)
      try simp only [Act.put, List.setIfInBounds_toArray, List.set_cons_zero, List.set_cons_succ]
      refine RG.takeF 5 (oi := ⟨some 16, _, _, _, _, _⟩) (v := ?_) rfl (by kernel_rfl) (by kernel_rfl) (by kernel_rfl) (by kernel_rfl) (fun _ _ _ h => h) (Or.inl ⟨by rfl, ?hyA5⟩) hS0 ?restA5
      case hyA5 => (intro W hW; (try dsimp only at hW); go_simp; try with_reducible rfl)
      try simp only [Act.put, List.setIfInBounds_toArray, List.set_cons_zero, List.set_cons_succ]
      refine RG.oneF 6 (by kernel_rfl) (by decide) ?_
      refine RG.wpOp_wanted rfl (by rfl) fun K hK => ?_
      go_simp
      with_reducible refine (HO.out _).mono ?_
      rintro e w3 ⟨rfl, hb⟩
      have hS3 : Below w1.heap.size w1 w3 := hS0.trans (hb.mono hS0.size)
      clear hb
      refine hK _ _ ⟨hS3, ?_⟩
      clear hK K
      try simp only [Act.put, List.setIfInBounds_toArray, List.set_cons_zero, List.set_cons_succ]
      refine RG.oneF 7 (by kernel_rfl) (by decide) ?_
      refine RG.wpOp_wanted rfl (by rfl) fun K hK => ?_
      go_simp
      refine hK _ _ ⟨hS3, ?_⟩
      clear hK K
      try simp only [Act.put, List.setIfInBounds_toArray, List.set_cons_zero, List.set_cons_succ]
      have hB3 := HB1.out.trans (hS3.mono HB1.out.size)
      have HB3 := Lib.hid hB3
      obtain ⟨g', cap', he, hcl⟩ := (HSH.out.below hB3).slo.cell HSK.out
      cases he
      have y0 := hcl 0 _ (by decide) rfl
      have y1 := hcl 1 _ (by decide) rfl
      have y2 := hcl 2 _ (by decide) rfl
      rw [Nat.add_zero] at y0
      have r0 := row_frozen (HSH.out.below hB3).slo (k * 3)
      have r1 := row_frozen (HSH.out.below hB3).slo (k * 3 + 1)
      have r2 := row_frozen (HSH.out.below hB3).slo (k * 3 + 2)
      clear hcl hB3
      refine RG.lastF (by kernel_rfl) (by kernel_rfl) ?_
      refine RG.wpOp_wanted rfl (by rfl) fun K hK => ?_
      go_simp
      refine hK _ _ ?_
      clear hK K
      try simp only [Act.put, List.setIfInBounds_toArray, List.set_cons_zero, List.set_cons_succ]
      clear q4 p0 p1 p2 y0 y1 y2 r0 r1 r2
      go_wp2
      go_ret
      have hg : X g := HSH.out.ownS g rfl
      obtain ⟨h0, hh, h3, hlr, hl⟩ := HH0.out
      refine ⟨rfl, ?_, ((((Chg.ofBelow HB3.out).setCell (fun _ => hg) _).setCell (fun _ => hg) _).setCell (fun _ => hg) _)⟩
      rw [HRR.out]
      refine ⟨?_, .inl ⟨hh, S.set k ⟨o1, o2, o3⟩, av, _, (HSH.out.below HB3.out).setSlot (v := ⟨o1, o2, o3⟩) HSK.out, rfl⟩⟩
      show s.A.length + (strPairs (ksOf T s.i) (S.set k ⟨o1, o2, o3⟩)).length ≤ N
      rw [strPairs_len (by rw [List.length_set]; exact hl), ← hlr, ← h3]
      exact h0
    · rw [h1] at hh; cases hh
end
end Go.Proofs.Ytmjfmfelbmbniaa
