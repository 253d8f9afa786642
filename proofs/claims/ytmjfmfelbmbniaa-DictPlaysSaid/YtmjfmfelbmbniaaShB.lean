/- Layer 12: a tree of shapes as it lies in memory; the calls that only read it. -/
import Derived.Test.YtmjfmfelbmbniaaShA
namespace Go.Proofs.Ytmjfmfelbmbniaa
open Go.RowKit Go.Maps HK ShM
set_option linter.unusedVariables false
set_option linter.unusedSimpArgs false
theorem ownsRow_of {w w' : World} {base : Nat} {e : TypeId} {size : Nat} {v : Value} {n : Nat} {xs : List Value} (h : w.ownsRow base e size v n xs) (hb : ∀ g, v.ownBlock = some g → w'.heap[g]? = w.heap[g]?) : w'.ownsRow base e size v n xs := by
  refine ⟨h.1, ?_⟩
  rcases h.2 with h | ⟨g, cap, cur, rfl, h1, h2, h3⟩
  · exact .inl h
  · exact .inr ⟨g, cap, cur, rfl, h1, (hb g rfl).trans h2, h3⟩
theorem mapD (o : Option Nat) : (o.map Int.ofNat).getD 0 = (o.getD 0 : Nat) := by cases o <;> rfl
theorem mapS (o : Option Nat) : (o.map Int.ofNat).isSome = o.isSome := by cases o <;> rfl
/-- Where a tree's parts lie. -/
structure Lay where
  mb : Nat
  vb : Nat
  cap : Nat
  nb : Nat → Nat
  kv : Nat → Value
  sb : Nat → Nat
  cb : Nat → Nat
abbrev ksOf (T : List Sh) (i : Nat) : List ByteArray := (T.getD i ([], 0)).1
abbrev slotF (ks : List ByteArray) (s : ByteArray) : Option Int := (slotOf ks s).map Int.ofNat
abbrev kidF (T : List Sh) (i : Nat) (s : ByteArray) : Option Int := (kidFrom T 0 i s).map Int.ofNat
structure TreeIn (w : World) (B : Nat → Prop) (tb : Nat) (deep fan : Int) (names : List ByteArray) (T : List Sh) (L : Lay) : Prop where
  hd : Blk w tb 179 [.int .i64 deep, .int .i64 fan, .map (some L.mb), .slice (some ⟨L.vb, 0, none⟩) T.length L.cap]
  mrk : ∃ n, MI Try.prog 9 38 .u64 w L.mb n (markF names)
  row : w.ownsRow 0 171 1 (.slice (some ⟨L.vb, 0, none⟩) T.length L.cap) T.length ((List.range T.length).map fun i => .pointer (some ⟨L.nb i, 0, none⟩))
  node : ∀ i, i < T.length → Blk w (L.nb i) 175 [L.kv i, .map (some (L.sb i)), .map (some (L.cb i)), .int .u64 (marksOf names (ksOf T i) : Nat)]
  keys : ∀ i, i < T.length → Strs w (L.kv i) (ksOf T i)
  slots : ∀ i, i < T.length → MI Try.prog 9 3 .i64 w (L.sb i) (ksOf T i).length (slotF (ksOf T i))
  kids : ∀ i, i < T.length → MI Try.prog 9 3 .i64 w (L.cb i) (kidCount T i) (kidF T i)
  inj : ∀ i j, i < T.length → j < T.length → L.cb i = L.cb j → i = j
  cs : ∀ i j, i < T.length → j < T.length → L.cb i ≠ L.sb j
  cm : ∀ i, i < T.length → L.cb i ≠ L.mb
  wf : WF deep T
  fan0 : 0 ≤ fan
  fan64 : fan ≤ 64
  nm : names.length ≤ 64
  ownT : B tb
  ownM : B L.mb
  ownV : B L.vb
  ownN : ∀ i, i < T.length → B (L.nb i) ∧ B (L.sb i) ∧ B (L.cb i) ∧ ∀ g, (L.kv i).ownBlock = some g → B g
  lt : ∀ b, B b → b < w.heap.size
def TreeAt (w : World) (B : Nat → Prop) (tb : Nat) (deep fan : Int) (names : List ByteArray) (T : List Sh) : Prop := ∃ L, TreeIn w B tb deep fan names T L
section
variable {w w' : World} {B : Nat → Prop} {tb : Nat} {deep fan : Int} {names : List ByteArray} {T : List Sh} {L : Lay}
theorem TreeIn.of (h : TreeIn w B tb deep fan names T L) (hs : w.heap.size ≤ w'.heap.size) (hb : ∀ b, B b → w'.heap[b]? = w.heap[b]?) : TreeIn w' B tb deep fan names T L := by
  obtain ⟨n, hm⟩ := h.mrk
  exact { h with
    hd := h.hd.of (hb _ h.ownT)
    mrk := ⟨n, hm.of (hb _ h.ownM)⟩
    row := ownsRow_of h.row (fun g hg => by cases hg; exact hb _ h.ownV)
    node := fun i hi => (h.node i hi).of (hb _ (h.ownN i hi).1)
    keys := fun i hi => ownsRow_of (h.keys i hi) (fun g hg => hb _ ((h.ownN i hi).2.2.2 g hg))
    slots := fun i hi => (h.slots i hi).of (hb _ (h.ownN i hi).2.1)
    kids := fun i hi => (h.kids i hi).of (hb _ (h.ownN i hi).2.2.1)
    lt := fun b hB => Nat.lt_of_lt_of_le (h.lt b hB) hs }
theorem TreeAt.of (h : TreeAt w B tb deep fan names T) (hs : w.heap.size ≤ w'.heap.size) (hb : ∀ b, B b → w'.heap[b]? = w.heap[b]?) : TreeAt w' B tb deep fan names T := by
  obtain ⟨L, h⟩ := h; exact ⟨L, h.of hs hb⟩
theorem TreeAt.below (h : TreeAt w B tb deep fan names T) (hb : Below w.heap.size w w') : TreeAt w' B tb deep fan names T := by
  obtain ⟨L, h⟩ := h; exact ⟨L, h.of hb.size fun b hB => hb.block b (h.lt b hB)⟩
theorem TreeIn.below (h : TreeIn w B tb deep fan names T L) (hb : Below w.heap.size w w') : TreeIn w' B tb deep fan names T L := h.of hb.size fun b hB => hb.block b (h.lt b hB)
theorem TreeAt.chg {C : Nat → Prop} (h : TreeAt w B tb deep fan names T) (hc : Chg C w w') (hd : ∀ b, B b → ¬ C b) : TreeAt w' B tb deep fan names T := by
  obtain ⟨L, h⟩ := h; exact ⟨L, h.of hc.size fun b hB => hc.block b (h.lt b hB) (hd b hB)⟩
theorem TreeIn.cell_row (h : TreeIn w B tb deep fan names T L) (i : Nat) (hi : i < T.length) : w.cell? ⟨L.vb, i, none⟩ = some (.pointer (some ⟨L.nb i, 0, none⟩)) := by
  have := h.row.cells (g := L.vb) rfl i (.pointer (some ⟨L.nb i, 0, none⟩)) (by simp [hi])
  rwa [addr0] at this
/-! ### the calls that only read -/
theorem at_miss (h : TreeIn w B tb deep fan names T L) (i : Int) (hi : i < 0 ∨ (T.length : Int) ≤ i) : Calls Try.prog 103 #[.pointer (some ⟨tb, 0, none⟩), .int .i64 i] w fun e w' => e = .returned (.pointer none) ∧ w = w' := by
  have c := h.hd.cell 3 _ rfl
  have hl : T.length ≤ 4096 := h.wf.le
  clear h
  by_cases h0 : i < 0
  · clear hi
    go_enter Try.func103, Try.ntmps103
    go_wp2
    go_ret
    exact ⟨rfl, rfl⟩
  · have h2 : (T.length : Int) ≤ i := by omega
    clear hi
    generalize T.length = n at *
    go_enter Try.func103, Try.ntmps103
    go_wp2
    go_ret
    exact ⟨rfl, rfl⟩
theorem at_hit (h : TreeIn w B tb deep fan names T L) (i : Nat) (hi : i < T.length) : Calls Try.prog 103 #[.pointer (some ⟨tb, 0, none⟩), .int .i64 i] w fun e w' => e = .returned (.pointer (some ⟨L.nb i, 0, none⟩)) ∧ w = w' := by
  have c := h.hd.cell 3 _ rfl
  have c2 := h.cell_row i hi
  have hl : T.length ≤ 4096 := h.wf.le
  clear h
  generalize T.length = n at *
  go_enter Try.func103, Try.ntmps103
  go_wp2
  go_ret
  exact ⟨rfl, rfl⟩
theorem at_nil (i : Int) (w : World) : Calls Try.prog 103 #[.pointer none, .int .i64 i] w fun e w' => e = .returned (.pointer none) ∧ w = w' := by
  go_enter Try.func103, Try.ntmps103
  go_wp2
  go_ret
  exact ⟨rfl, rfl⟩
theorem len_nil (w : World) : Calls Try.prog 29 #[.pointer none] w fun e w' => e = .returned (.int .i64 0) ∧ w = w' := by
  go_enter Try.func29, Try.ntmps29
  go_wp2
  go_ret
  exact ⟨rfl, rfl⟩
theorem len_calls (h : TreeAt w B tb deep fan names T) : Calls Try.prog 29 #[.pointer (some ⟨tb, 0, none⟩)] w fun e w' => e = .returned (.int .i64 T.length) ∧ w = w' := by
  obtain ⟨L, h⟩ := h
  have c := h.hd.cell 3 _ rfl
  clear h
  generalize T.length = n at *
  go_enter Try.func29, Try.ntmps29
  go_wp2
  go_ret
  exact ⟨rfl, rfl⟩
def marksM (names : List ByteArray) (T : List Sh) (i : Int) : Int := if i < 0 ∨ (T.length : Int) ≤ i then 0 else (marksOf names (ksOf T i.toNat) : Nat)
theorem marks_calls (h : TreeAt w B tb deep fan names T) (i : Int) : Calls Try.prog 31 #[.pointer (some ⟨tb, 0, none⟩), .int .i64 i] w fun e w' => e = .returned (.int .u64 (marksM names T i)) ∧ w = w' := by
  obtain ⟨L, h⟩ := h
  unfold marksM
  by_cases hi : i < 0 ∨ (T.length : Int) ≤ i
  · rw [if_pos hi]
    have H := Lib.hid (at_miss h i hi)
    clear h hi
    go_enter Try.func31, Try.ntmps31
    go_wp2_with (go_at_call 103; refine H.out.mono ?_; rintro e w' ⟨rfl, rfl⟩)
    go_ret
    exact ⟨rfl, rfl⟩
  · rw [if_neg hi]
    obtain ⟨k, rfl⟩ : ∃ k : Nat, i = k := ⟨i.toNat, by omega⟩
    have hk : k < T.length := by omega
    rw [Int.toNat_natCast]
    have H := Lib.hid (at_hit h k hk)
    have c := (h.node k hk).cell 3 _ rfl
    clear h hi
    generalize ((marksOf names (ksOf T k) : Nat) : Int) = m at *
    go_enter Try.func31, Try.ntmps31
    go_wp2_with (go_at_call 103; refine H.out.mono ?_; rintro e w' ⟨rfl, rfl⟩)
    go_ret
    exact ⟨rfl, rfl⟩
def slotM (T : List Sh) (i : Int) (s : ByteArray) : Option Nat := if i < 0 ∨ (T.length : Int) ≤ i then none else slotOf (ksOf T i.toNat) s
theorem slot_calls (h : TreeAt w B tb deep fan names T) (i : Int) (s : ByteArray) (hs : s.size ≤ maxLen) : Calls Try.prog 34 #[.pointer (some ⟨tb, 0, none⟩), .int .i64 i, .string s] w fun e w' =>
    e = .returned (.tuple #[.int .i64 ((slotM T i s).getD 0 : Nat), .bool (slotM T i s).isSome]) ∧ w = w' := by
  obtain ⟨L, h⟩ := h
  unfold slotM
  by_cases hi : i < 0 ∨ (T.length : Int) ≤ i
  · rw [if_pos hi]
    have H := Lib.hid (at_miss h i hi)
    clear h hi
    go_enter Try.func34, Try.ntmps34
    go_wp2_with (go_at_call 103; refine H.out.mono ?_; rintro e w' ⟨rfl, rfl⟩)
    go_ret2
    exact ⟨rfl, rfl⟩
  · rw [if_neg hi]
    obtain ⟨k, rfl⟩ : ∃ k : Nat, i = k := ⟨i.toNat, by omega⟩
    have hk : k < T.length := by omega
    rw [Int.toNat_natCast]
    have H := Lib.hid (at_hit h k hk)
    have c := (h.node k hk).cell 1 _ rfl
    have lk := (h.slots k hk).look_ok law9 Try.underlying9 Try.underlying173 Try.underlying3 (zero3 w) s hs
    have e1 : ((slotF (ksOf T k) s).getD 0) = ((slotOf (ksOf T k) s).getD 0 : Nat) := mapD _
    have e2 : (slotF (ksOf T k) s).isSome = (slotOf (ksOf T k) s).isSome := mapS _
    rw [e1, e2] at lk
    clear h hi e1 e2
    generalize (slotOf (ksOf T k) s).getD 0 = m at *
    generalize (slotOf (ksOf T k) s).isSome = o at *
    go_enter Try.func34, Try.ntmps34
    go_wp2_with (go_at_call 103; refine H.out.mono ?_; rintro e w' ⟨rfl, rfl⟩)
    go_ret2
    exact ⟨rfl, rfl⟩
theorem slot_nil (i : Int) (s : ByteArray) (w : World) : Calls Try.prog 34 #[.pointer none, .int .i64 i, .string s] w fun e w' => e = .returned (.tuple #[.int .i64 0, .bool false]) ∧ w = w' := by
  go_enter Try.func34, Try.ntmps34
  go_wp2_with (go_at_call 103; refine (at_nil _ _).mono ?_; rintro e w' ⟨rfl, rfl⟩)
  go_ret2
  exact ⟨rfl, rfl⟩
def keysM (T : List Sh) (i : Int) : List ByteArray := if i < 0 ∨ (T.length : Int) ≤ i then [] else ksOf T i.toNat
/-- Rows of the call's own: what comes back holds the keys, in a block that is new, or nil. -/
def NewStrs (w w' : World) (v : Value) (ks : List ByteArray) : Prop := Strs w' v ks ∧ (∀ g, v.ownBlock = some g → w.heap.size ≤ g) ∧ Below w.heap.size w w'
theorem keys_calls (h : TreeAt w B tb deep fan names T) (i : Int) : Calls Try.prog 30 #[.pointer (some ⟨tb, 0, none⟩), .int .i64 i] w fun e w' => ∃ v, e = .returned v ∧ NewStrs w w' v (keysM T i) := by
  obtain ⟨L, h⟩ := h
  unfold keysM
  by_cases hi : i < 0 ∨ (T.length : Int) ≤ i
  · rw [if_pos hi]
    have H := Lib.hid (at_miss h i hi)
    clear h hi
    go_enter Try.func30, Try.ntmps30
    go_wp2_with (go_at_call 103; refine H.out.mono ?_; rintro e w' ⟨rfl, rfl⟩)
    go_ret
    exact ⟨_, rfl, World.ownsRow_nil _ _ _ _, fun g hg => by (cases hg), Below.refl _ _⟩
  · rw [if_neg hi]
    obtain ⟨k, rfl⟩ : ∃ k : Nat, i = k := ⟨i.toNat, by omega⟩
    have hk : k < T.length := by omega
    rw [Int.toNat_natCast]
    have H := Lib.hid (at_hit h k hk)
    have c := (h.node k hk).cell 0 _ rfl
    have hks := h.keys k hk
    have h64 : (ksOf T k).length ≤ 1000000 := by have h1 := h.wf.keys k hk; have h2 := h.wf.deep64; show (T.getD k ([], 0)).1.length ≤ _; omega
    clear h hi
    generalize ksOf T k = ks at *
    generalize hv0 : L.kv k = v0 at *
    rcases hks.2 with ⟨rfl, hn⟩ | ⟨g, cap, cur, rfl, hr⟩
    · obtain rfl : ks = [] := List.eq_nil_of_length_eq_zero hn
      have H0 := Lib.hid h64; clear hn hks h64 hv0
      go_enter Try.func30, Try.ntmps30
      go_wp2_with (first | (go_at_call 103; refine H.out.mono ?_; rintro e w' ⟨rfl, rfl⟩) | (go_at_call 104; refine (clone_nil _).mono ?_; rintro e w' ⟨rfl, rfl⟩))
      go_ret
      exact ⟨_, rfl, World.ownsRow_nil _ _ _ _, fun g hg => by (cases hg), Below.refl _ _⟩
    · have H1 := Lib.hid (clone_strs w g ks.length cap ks hks rfl h64)
      clear hks h64 hv0 hr
      go_enter Try.func30, Try.ntmps30
      go_wp2_with (first | (go_at_call 103; refine H.out.mono ?_; rintro e w' ⟨rfl, rfl⟩) | (go_at_call 104; refine H1.out.mono ?_; rintro e w' ⟨v, rfl, h1, h2, h3, h4⟩))
      go_ret
      exact ⟨v, rfl, h1, h2, h4⟩
theorem keys_nil (i : Int) (w : World) : Calls Try.prog 30 #[.pointer none, .int .i64 i] w fun e w' => e = .returned (.slice none 0 0) ∧ w = w' := by
  go_enter Try.func30, Try.ntmps30
  go_wp2_with (go_at_call 103; refine (at_nil _ _).mono ?_; rintro e w' ⟨rfl, rfl⟩)
  go_ret
  exact ⟨rfl, rfl⟩
theorem WF.keys_len (h : WF deep T) {i : Nat} (hi : i < T.length) : (ksOf T i).length ≤ 64 := by
  have h1 := h.keys i hi; have h2 := h.deep64; show (T.getD i ([], 0)).1.length ≤ _; omega
theorem tree_grow {L : Lay} (h : TreeIn w B tb deep fan names T L) (k : Nat) (hk : k < T.length) (z : ByteArray) (hm : z ∉ ksOf T k) (hT' : WF deep (T ++ [(ksOf T k ++ [z], (k : Int))])) (hkid : kidFrom T 0 k z = none)
    (W : World) (yb sb cb g c : Nat) (va : Value) (hsz : w.heap.size ≤ W.heap.size)
    (hold : ∀ b, b < w.heap.size → b ≠ tb → b ≠ L.vb → b ≠ L.cb k → W.heap[b]? = w.heap[b]?)
    (hhd : Blk W tb 179 [.int .i64 deep, .int .i64 fan, .map (some L.mb), .slice (some ⟨g, 0, none⟩) (T.length + 1) c])
    (hrow : W.ownsRow 0 171 1 (.slice (some ⟨g, 0, none⟩) (T.length + 1) c) (T.length + 1) (((List.range T.length).map fun i => .pointer (some ⟨L.nb i, 0, none⟩)) ++ [.pointer (some ⟨yb, 0, none⟩)]))
    (hkids : MI Try.prog 9 3 .i64 W (L.cb k) (kidCount T k + 1) (fun s => if s = z then some (T.length : Int) else kidF T k s))
    (hy : Blk W yb 175 [va, .map (some sb), .map (some cb), .int .u64 (marksOf names (ksOf T k ++ [z]) : Nat)])
    (hs : MI Try.prog 9 3 .i64 W sb ((ksOf T k).length + 1) (fun s => if s = z then some ((ksOf T k).length : Int) else slotF (ksOf T k) s))
    (hc : MI Try.prog 9 3 .i64 W cb 0 (fun _ => none)) (hva : Strs W va (ksOf T k ++ [z])) (hcs : cb ≠ sb)
    (f1 : w.heap.size ≤ yb) (f2 : w.heap.size ≤ sb) (f3 : w.heap.size ≤ cb) (f4 : ∀ q, va.ownBlock = some q → w.heap.size ≤ q) (f5 : g = L.vb ∨ w.heap.size ≤ g) :
    TreeAt W (fun b => B b ∨ w.heap.size ≤ b ∧ b < W.heap.size) tb deep fan names (T ++ [(ksOf T k ++ [z], (k : Int))]) := by
  have hlen : (T ++ [(ksOf T k ++ [z], (k : Int))]).length = T.length + 1 := by simp
  have hold' : ∀ i, i < T.length → W.heap[L.nb i]? = w.heap[L.nb i]? := fun i hi => hold _ (h.node i hi).lt (fun e => (h.hd.ne (h.node i hi) (by decide)) e.symm) (by
    obtain ⟨g0, c0, cur, q1, _, q3⟩ : ∃ g0 c0 cur, L.vb = g0 ∧ c0 = c0 ∧ w.heap[g0]? = some (.cells cur 171 (0, 0)) := by
      rcases h.row.2 with ⟨q, _⟩ | ⟨g0, c0, cur, q, _, q3, _⟩
      · cases q
      · cases q; exact ⟨_, 0, cur, rfl, rfl, q3⟩
    intro e
    have := h.node i hi
    rw [e, q1] at this
    have := (show w.heap[g0]? = _ from this).symm.trans q3
    simp at this) ((h.kids k hk).blk_ne (h.node i hi))
  have vbne : ∀ {b n f}, MI Try.prog 9 3 .i64 w b n f → b ≠ L.vb := by
    intro b n f hb e
    obtain ⟨es, n, ho⟩ := hb.obj
    rcases h.row.2 with ⟨q, _⟩ | ⟨g0, c0, cur, q, _, q3, _⟩
    · cases q
    · cases q; rw [e, q3] at ho; cases ho
  have holdS : ∀ i, i < T.length → W.heap[L.sb i]? = w.heap[L.sb i]? := fun i hi => hold _ (h.slots i hi).lt (fun e => (h.slots i hi).blk_ne h.hd e.symm) (vbne (h.slots i hi)) (fun e => h.cs k i hk hi e.symm)
  have holdC : ∀ i, i < T.length → i ≠ k → W.heap[L.cb i]? = w.heap[L.cb i]? := fun i hi hne => hold _ (h.kids i hi).lt (fun e => (h.kids i hi).blk_ne h.hd e.symm) (vbne (h.kids i hi)) (fun e => hne (h.inj _ _ hi hk e))
  obtain ⟨nm, hmb⟩ := h.mrk
  have vbm : L.mb ≠ L.vb := by
    intro e
    obtain ⟨es, n, ho⟩ := hmb.obj
    rcases h.row.2 with ⟨q, _⟩ | ⟨g0, c0, cur, q, _, q3, _⟩
    · cases q
    · cases q; rw [e, q3] at ho; cases ho
  have ltc : ∀ i, i < T.length → L.cb i < w.heap.size := fun i hi => (h.kids i hi).lt
  have lts : ∀ i, i < T.length → L.sb i < w.heap.size := fun i hi => (h.slots i hi).lt
  refine ⟨{ mb := L.mb, vb := g, cap := c, nb := fun i => if i = T.length then yb else L.nb i, kv := fun i => if i = T.length then va else L.kv i, sb := fun i => if i = T.length then sb else L.sb i, cb := fun i => if i = T.length then cb else L.cb i }, ?_⟩
  exact { 
    hd := by rw [hlen]; exact hhd
    mrk := ⟨nm, hmb.of (hold _ hmb.lt (fun e => hmb.blk_ne h.hd e.symm) vbm (fun e => h.cm k hk e.symm))⟩
    row := by
      rw [hlen, List.range_succ, List.map_append]
      have e : (List.range T.length).map (fun i => Value.pointer (some ⟨if i = T.length then yb else L.nb i, 0, none⟩)) = (List.range T.length).map fun i => Value.pointer (some ⟨L.nb i, 0, none⟩) := by
        apply List.map_congr_left
        intro i hi
        rw [if_neg (by have := List.mem_range.1 hi; omega)]
      rw [e]
      simpa using hrow
    node := fun i hi => by
      rw [hlen] at hi
      by_cases e : i = T.length
      · subst e
        simp only [if_true]
        rw [show ksOf (T ++ [(ksOf T k ++ [z], (k : Int))]) T.length = ksOf T k ++ [z] by unfold ksOf; rw [getD_snoc]]
        exact hy
      · have hi' : i < T.length := by omega
        simp only [if_neg e]
        rw [show ksOf (T ++ [(ksOf T k ++ [z], (k : Int))]) i = ksOf T i by unfold ksOf; rw [getD_append_left hi']]
        exact (h.node i hi').of (hold' i hi')
    keys := fun i hi => by
      rw [hlen] at hi
      by_cases e : i = T.length
      · subst e
        simp only [if_true]
        rw [show ksOf (T ++ [(ksOf T k ++ [z], (k : Int))]) T.length = ksOf T k ++ [z] by unfold ksOf; rw [getD_snoc]]
        exact hva
      · have hi' : i < T.length := by omega
        simp only [if_neg e]
        rw [show ksOf (T ++ [(ksOf T k ++ [z], (k : Int))]) i = ksOf T i by unfold ksOf; rw [getD_append_left hi']]
        refine ownsRow_of (h.keys i hi') fun q hq => ?_
        obtain ⟨cur, hcur⟩ : ∃ cur, w.heap[q]? = some (.cells cur 9 (0, 0)) := by
          rcases (h.keys i hi').2 with ⟨q1, _⟩ | ⟨g0, c0, cur, q1, _, q3, _⟩
          · rw [q1] at hq; cases hq
          · rw [q1] at hq; cases hq; exact ⟨cur, q3⟩
        refine hold _ ((h.keys i hi').lt q hq).2 ?_ ?_ ?_
        · rintro rfl; have := (show w.heap[q]? = _ from h.hd).symm.trans hcur; simp at this
        · rintro rfl
          rcases h.row.2 with ⟨q1, _⟩ | ⟨g0, c0, cur', q1, _, q3, _⟩
          · cases q1
          · cases q1; rw [hcur] at q3; simp at q3
        · rintro rfl; obtain ⟨es, n, ho⟩ := (h.kids k hk).obj; rw [hcur] at ho; cases ho
    slots := fun i hi => by
      rw [hlen] at hi
      by_cases e : i = T.length
      · subst e
        simp only [if_true]
        rw [show ksOf (T ++ [(ksOf T k ++ [z], (k : Int))]) T.length = ksOf T k ++ [z] by unfold ksOf; rw [getD_snoc]]
        rw [List.length_append, List.length_singleton]
        refine hs.congr fun s _ => ?_
        unfold slotF
        rw [slotOf_snoc _ _ _ hm]
        split <;> rfl
      · have hi' : i < T.length := by omega
        simp only [if_neg e]
        rw [show ksOf (T ++ [(ksOf T k ++ [z], (k : Int))]) i = ksOf T i by unfold ksOf; rw [getD_append_left hi']]
        exact (h.slots i hi').of (holdS i hi')
    kids := fun i hi => by
      rw [hlen] at hi
      by_cases e : i = T.length
      · subst e
        simp only [if_true]
        have hn : ∀ x ∈ T ++ [(ksOf T k ++ [z], (k : Int))], x.2 ≠ ((T.length : Nat) : Int) := by
          intro x hx
          rcases List.mem_append.1 hx with hx | hx
          · have := h.wf.par_lt x hx; omega
          · simp at hx; subst hx; dsimp only; omega
        rw [kidCount_none hn]
        refine hc.congr fun s _ => ?_
        unfold kidF
        rw [kidFrom_none_of hn]; rfl
      · have hi' : i < T.length := by omega
        simp only [if_neg e]
        rw [kidCount_append]
        by_cases e2 : i = k
        · subst e2
          have e3 : kidCount [(ksOf T i ++ [z], (i : Int))] i = 1 := by simp [kidCount]
          rw [e3]
          refine hkids.congr fun s _ => ?_
          unfold kidF
          rw [kidFrom_append]
          by_cases es : s = z
          · subst es
            rw [if_pos rfl, hkid]
            simp [kidFrom]
          · rw [if_neg es]
            cases kidFrom T 0 i s with
            | some j => rfl
            | none => simp [kidFrom, Ne.symm es]
        · have e3 : kidCount [(ksOf T k ++ [z], (k : Int))] i = 0 := by
            refine kidCount_none fun x hx => ?_
            simp at hx; subst hx; dsimp only; omega
          rw [e3]
          refine ((h.kids i hi').of (holdC i hi' e2)).congr fun s _ => ?_
          unfold kidF
          rw [kidFrom_append]
          cases kidFrom T 0 i s with
          | some j => rfl
          | none => 
            dsimp only
            rw [kidFrom_none_of]
            intro x hx
            simp at hx; subst hx; dsimp only; omega
    inj := fun i j hi hj e => by
      rw [hlen] at hi hj
      dsimp only at e
      by_cases ei : i = T.length <;> by_cases ej : j = T.length
      · omega
      · rw [if_pos ei, if_neg ej] at e; have := ltc j (by omega); omega
      · rw [if_neg ei, if_pos ej] at e; have := ltc i (by omega); omega
      · rw [if_neg ei, if_neg ej] at e; exact h.inj i j (by omega) (by omega) e
    cs := fun i j hi hj => by
      rw [hlen] at hi hj
      dsimp only
      by_cases ei : i = T.length <;> by_cases ej : j = T.length
      · rw [if_pos ei, if_pos ej]; exact hcs
      · rw [if_pos ei, if_neg ej]; have := lts j (by omega); omega
      · rw [if_neg ei, if_pos ej]; have := ltc i (by omega); omega
      · rw [if_neg ei, if_neg ej]; exact h.cs i j (by omega) (by omega)
    cm := fun i hi => by
      rw [hlen] at hi
      dsimp only
      by_cases ei : i = T.length
      · rw [if_pos ei]; have := hmb.lt; omega
      · rw [if_neg ei]; exact h.cm i (by omega)
    wf := hT'
    fan0 := h.fan0
    fan64 := h.fan64
    nm := h.nm
    ownT := .inl h.ownT
    ownM := .inl h.ownM
    ownV := by
      rcases f5 with f5 | f5
      · subst f5; exact .inl h.ownV
      · exact .inr ⟨f5, (hrow.lt g rfl).2⟩
    ownN := fun i hi => by
      rw [hlen] at hi
      dsimp only
      by_cases ei : i = T.length
      · simp only [if_pos ei]
        exact ⟨.inr ⟨f1, hy.lt⟩, .inr ⟨f2, hs.lt⟩, .inr ⟨f3, hc.lt⟩, fun q hq => .inr ⟨f4 q hq, (hva.lt q hq).2⟩⟩
      · simp only [if_neg ei]
        obtain ⟨o1, o2, o3, o4⟩ := h.ownN i (by omega)
        exact ⟨.inl o1, .inl o2, .inl o3, fun q hq => .inl (o4 q hq)⟩
    lt := fun b hb => by
      rcases hb with hb | hb
      · exact Nat.lt_of_lt_of_le (h.lt b hb) hsz
      · exact hb.2 }
end
end Go.Proofs.Ytmjfmfelbmbniaa
