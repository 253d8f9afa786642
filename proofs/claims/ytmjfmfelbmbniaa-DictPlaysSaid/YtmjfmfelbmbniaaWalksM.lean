/- Layer 13: Next meets what lives. Rows of values; plain lemmas. -/
import Derived.Test.YtmjfmfelbmbniaaKeepsM
namespace Go.Proofs.Ytmjfmfelbmbniaa
open Go.RowKit Go.Maps HK ShM
set_option linter.unusedVariables false
set_option linter.unusedSimpArgs false
def flatV (l : List Val) : List Value := l.flatMap Val.cells
theorem flatV_len (l : List Val) : (flatV l).length = l.length * 3 := by
  induction l with
  | nil => rfl
  | cons x r ih => rw [flatV, List.flatMap_cons, List.length_append]; rw [flatV] at ih; rw [ih]; simp only [List.length_cons, List.length_nil]; omega
theorem flatV_at : ∀ {l : List Val} {i c : Nat} {x : Val}, l[i]? = some x → c < 3 → (flatV l)[i * 3 + c]? = x.cells[c]?
  | [], i, c, x, h, hc => by simp at h
  | y :: r, 0, c, x, h, hc => by
    simp at h; subst h
    rw [flatV, List.flatMap_cons, Nat.zero_mul, Nat.zero_add, List.getElem?_append_left (by simpa using hc)]
  | y :: r, i + 1, c, x, h, hc => by
    rw [flatV, List.flatMap_cons, List.getElem?_append_right (by show 3 ≤ _; omega), show (i + 1) * 3 + c - (Val.cells y).length = i * 3 + c by show (i + 1) * 3 + c - 3 = _; omega]
    exact flatV_at (l := r) (by simpa using h) hc
/-- A row of values of the call's own. -/
def OwnV (w : World) (base : Nat) (v : Value) (l : List Val) : Prop := w.ownsRow base 57 3 v l.length (flatV l)
section
variable {w w' : World} {base : Nat} {v : Value} {l : List Val}
theorem OwnV.nil (w : World) (base : Nat) : OwnV w base (.slice none 0 0) [] := World.ownsRow_nil _ _ _ _
theorem OwnV.of (h : OwnV w base v l) (hb : ∀ g, v.ownBlock = some g → w'.heap[g]? = w.heap[g]?) : OwnV w' base v l := ownsRow_of h hb
theorem OwnV.below (h : OwnV w base v l) (hb : Below w.heap.size w w') : OwnV w' base v l := h.of (fun g hg => hb.block g (ownsRow.lt' h hg))
where ownsRow.lt' {w : World} {base : Nat} {v : Value} {l : List Val} (h : OwnV w base v l) {g : Nat} (hg : v.ownBlock = some g) : g < w.heap.size := (World.ownsRow.lt h g hg).2
theorem OwnV.lt (h : OwnV w base v l) : ∀ g, v.ownBlock = some g → base ≤ g ∧ g < w.heap.size := World.ownsRow.lt h
theorem OwnV.form (h : OwnV w base v l) : ∃ a c, v = .slice a l.length c ∧ l.length ≤ c ∧ c ≤ 9223372036854775807 := by
  rcases h.2 with ⟨he, hn⟩ | ⟨g, cap, cur, he, _, _, hc, hm, _⟩
  · exact ⟨none, 0, by rw [hn]; exact he, by omega, by omega⟩
  · exact ⟨_, cap, he, hc, hm⟩
theorem OwnV.cell (h : OwnV w base v l) {j : Nat} {x : Val} (hx : l[j]? = some x) : ∃ g cap, v = .slice (some ⟨g, 0, none⟩) l.length cap ∧ ∀ c u, c < 3 → x.cells[c]? = some u → w.cell? ⟨g, j * 3 + c, none⟩ = some u := by
  rcases h.2 with ⟨_, hn⟩ | ⟨g, cap, cur, rfl, _, _, hc, hm, _⟩
  · rw [List.eq_nil_of_length_eq_zero hn] at hx; simp at hx
  · refine ⟨g, cap, rfl, fun c u hc3 hu => ?_⟩
    have := World.ownsRow.cells h (g := g) rfl (j * 3 + c) u (by rw [flatV_at hx hc3, hu])
    rwa [addr0] at this
end
theorem info57 : (Try.prog.info? 57).map (fun i => (i.zero, i.size, i.bytes)) = some (some (.agg #[.int .i64 0, .int .i64 0, .string ByteArray.empty]), 3, 32) := by kernel_rfl
theorem flatV_oneCell (l : List Val) : ∀ u ∈ flatV l, u.oneCell' = true := by
  intro u hu
  obtain ⟨x, _, hx⟩ := List.mem_flatMap.1 hu
  simp at hx
  rcases hx with rfl | rfl | rfl <;> rfl
/-- A value behind a row of values. -/
theorem run_append_val (w : World) (base b : Nat) (x : Val) (hb : Blk w b 57 x.cells) (v : Value) (l : List Val) (ho : OwnV w base v l) (hl : l.length ≤ 1048576) (hbase : base ≤ w.heap.size) :
    ∃ v' w', (Builtin.append_ #[55, 55] 55 #[v, .slice (some ⟨b, 0, none⟩) 1 1]).run Try.prog w = .ok v' w' ∧ OwnV w' base v' (l ++ [x]) ∧ w.grownBy w' v.ownBlock ∧ (v'.ownBlock = v.ownBlock ∨ v'.ownBlock = some w.heap.size) := by
  obtain ⟨i0, hi, hz0, hz1, hz2⟩ := info_parts info57
  obtain ⟨v', w', r1, r2, r3, r4, r5⟩ := run_append_own_at (P := Try.prog) w base 55 55 57 i0 _ 3 32 Try.underlying55 hi hz0 hz1 hz2 rfl (by decide) v l.length _ ho ⟨b, 0, none⟩ 1 1 x.cells rfl (fun j u hu => by rw [addr0]; exact hb.cell j u hu)
    (fun u hu => flatV_oneCell [x] u (by simpa [flatV] using hu)) (by have : maxLen = 9223372036854775807 := rfl; omega) (by omega) hbase
  refine ⟨v', w', r1, ?_, r3, r5⟩
  unfold OwnV
  rw [List.length_append, List.length_singleton, show flatV (l ++ [x]) = flatV l ++ x.cells by simp [flatV]]
  exact r2
/-! Keys in order. -/
def keysOf (L : Pairs) : List Val := L.map (·.1)
def KeysOK (L : Pairs) : Prop := (keysOf L).Nodup ∧ ∀ p ∈ L, keyV p.1 = p.1 ∧ p.1.bad = false ∧ p.1.s.size ≤ maxLen
theorem nodup_absE : ∀ {es : List Ent}, Uniq es → (keysOf (absE es)).Nodup
  | [], _ => List.nodup_nil
  | none :: r, h => by rw [absE_none]; exact nodup_absE (uniq_tail h)
  | some (k, v) :: r, h => by
    rw [absE_some]
    refine List.nodup_cons.2 ⟨fun hm => ?_, nodup_absE (uniq_tail h)⟩
    obtain ⟨⟨a, b⟩, hp, he⟩ := List.mem_map.1 hm
    obtain ⟨i, hi⟩ := mem_absE.1 hp
    cases he
    exact uniq_head h i b hi
theorem DAt.keysOK {w : World} {X : Nat → Prop} {d N : Nat} {L : Pairs} (h : DAt w X d L N) : KeysOK L := by
  obtain ⟨es, ev, tb, T, h, rfl, _⟩ := h
  refine ⟨nodup_absE h.uniq, fun p hp => ?_⟩
  obtain ⟨i, hi⟩ := mem_absE.1 hp
  obtain ⟨h1, h2, h3⟩ := h.canon i p.1 p.2 hi
  exact ⟨by rw [keyV_own h2, h1], h2, h3⟩
theorem Dct.keysOK {Z : Nat → Prop} {w0 w : World} {d N : Nat} {L : Pairs} {B : List (Nat × Val)} (h : Dct Z w0 w d L N B) : KeysOK L := by
  obtain ⟨X, h1, _⟩ := h; exact h1.keysOK
theorem keys_setA (L : Pairs) (k v : Val) : keysOf (setA L k v) = keysOf L := by
  unfold keysOf setA
  rw [List.map_map]
  apply List.map_congr_left
  intro x _
  simp only [Function.comp]
  split
  · rename_i h; exact h.symm
  · rfl
theorem keys_set (L : Pairs) (x v : Val) : keysOf (setL L x v) = if setF L x v then keysOf L ++ [keyV x] else keysOf L := by
  unfold setL setF
  cases hb : x.bad with
  | true => simp
  | false =>
    cases h : getA L (keyV x) with
    | some u => simp [keys_setA]
    | none =>
      by_cases h0 : v.own.k = 0
      · simp [h0]
      · simp [h0, keysOf]
theorem keys_drop (L : Pairs) (k : Val) : keysOf (dropA L k) = (keysOf L).filter (fun x => decide (x ≠ k)) := by
  unfold keysOf dropA
  rw [List.filter_map]
  rfl
theorem has_good {L : Pairs} {x : Val} (h : hasK L x = true) : keyE x = 0 := by
  unfold hasK at h
  unfold keyE
  cases hb : x.bad with
  | false => rfl
  | true => rw [hb] at h; simp at h
theorem getA_mem : ∀ {L : Pairs}, (keysOf L).Nodup → ∀ {p : Val × Val}, p ∈ L → getA L p.1 = some p.2
  | [], _, p, hp => by cases hp
  | x :: r, hn, p, hp => by
    unfold getA
    rw [List.find?_cons]
    have h1 := List.nodup_cons.1 (show ((x.1 :: keysOf r)).Nodup from hn)
    rcases List.mem_cons.1 hp with rfl | hp
    · simp
    · have hne : x.1 ≠ p.1 := fun e => h1.1 (by rw [e]; exact List.mem_map.2 ⟨p, hp, rfl⟩)
      simp only [hne, decide_false]
      exact getA_mem h1.2 hp
theorem getV_mem {L : Pairs} (h : KeysOK L) {p : Val × Val} (hp : p ∈ L) : getV L p.1 = p.2 := by
  obtain ⟨h1, h2, _⟩ := h.2 p hp
  unfold getV
  rw [h2, h1, getA_mem h.1 hp]
  rfl
def wantOf (L : Pairs) : List Val := (L.filter (fun p => decide (p.2.k ≠ 0))).map (·.1)
theorem wantOf_len (L : Pairs) : (wantOf L).length = liveL L := by
  unfold wantOf liveL
  rw [List.length_map, List.countP_eq_length_filter]
theorem wantOf_append (A B : Pairs) : wantOf (A ++ B) = wantOf A ++ wantOf B := by
  unfold wantOf
  rw [List.filter_append, List.map_append]
theorem wantOf_dead {L : Pairs} (h : ∀ p ∈ L, p.2.k = 0) : wantOf L = [] := by
  unfold wantOf
  rw [List.filter_eq_nil_iff.2 (fun p hp => by simp [h p hp])]
  rfl
theorem wantOf_take {L : Pairs} {i : Nat} {p : Val × Val} (h : L[i]? = some p) : wantOf (L.take (i + 1)) = wantOf (L.take i) ++ if p.2.k = 0 then [] else [p.1] := by
  obtain ⟨hlt, he⟩ := List.getElem?_eq_some_iff.1 h
  rw [List.take_succ_eq_append_getElem hlt, he, wantOf_append]
  congr 1
  unfold wantOf
  by_cases h0 : p.2.k = 0 <;> simp [h0]
/-- The first that lives. -/
theorem want_split : ∀ {B : Pairs} {x : Val} {r : List Val}, wantOf B = x :: r → ∃ B1 v B2, B = B1 ++ (x, v) :: B2 ∧ (∀ p ∈ B1, p.2.k = 0) ∧ v.k ≠ 0 ∧ wantOf B2 = r
  | [], x, r, h => by cases h
  | p :: B, x, r, h => by
    by_cases h0 : p.2.k = 0
    · have h1 : wantOf B = x :: r := by
        rw [← h]
        unfold wantOf
        rw [List.filter_cons_of_neg (by simp [h0])]
      obtain ⟨B1, v, B2, rfl, h2, h3, h4⟩ := want_split h1
      exact ⟨p :: B1, v, B2, rfl, fun q hq => (List.mem_cons.1 hq).elim (fun e => e ▸ h0) (h2 q), h3, h4⟩
    · have h1 : p.1 :: wantOf B = x :: r := by
        rw [← h]
        unfold wantOf
        rw [List.filter_cons_of_pos (by simp [h0])]
        rfl
      obtain ⟨e1, e2⟩ := List.cons.inj h1
      exact ⟨[], p.2, B, by rw [← e1]; rfl, (fun q hq => by cases hq), h0, e2⟩
/-- Those that were met, their values written anew. -/
def anew (nv : Val) (A : Pairs) : Pairs := A.map (fun p => if p.2.k = 0 then p else (p.1, nv))
theorem anew_keys (nv : Val) (A : Pairs) : keysOf (anew nv A) = keysOf A := by
  unfold keysOf anew
  rw [List.map_map]
  apply List.map_congr_left
  intro x _
  simp only [Function.comp]
  split <;> rfl
theorem anew_dead {nv : Val} {A : Pairs} (h : ∀ p ∈ A, p.2.k = 0) : anew nv A = A := by
  unfold anew
  rw [List.map_congr_left (g := id) (fun p hp => by rw [if_pos (h p hp)]; rfl)]
  simp
theorem anew_append (nv : Val) (A B : Pairs) : anew nv (A ++ B) = anew nv A ++ anew nv B := List.map_append
/-- Where the walk stands: behind A. -/
def Stands (A : Pairs) (x : Val) : Prop := A = [] ∧ x = Val.nil ∨ ∃ A' v, A = A' ++ [(x, v)]
theorem first_dead {B : Pairs} (h : ∀ p ∈ B, p.2.k = 0) : firstLive B = (Val.nil, Val.nil) := by
  unfold firstLive
  rw [List.find?_eq_none.2 (fun p hp => by simp [h p hp])]
  rfl
theorem first_at {B1 B2 : Pairs} {x v : Val} (h : ∀ p ∈ B1, p.2.k = 0) (hv : v.k ≠ 0) : firstLive (B1 ++ (x, v) :: B2) = (x, v) := by
  unfold firstLive
  rw [List.find?_append, List.find?_eq_none.2 (fun p hp => by simp [h p hp]), List.find?_cons]
  simp [hv]
theorem dropWhile_to {A B : Pairs} {x v : Val} (h : x ∉ keysOf A) : (A ++ (x, v) :: B).dropWhile (fun p => decide (p.1 ≠ x)) = (x, v) :: B := by
  induction A with
  | nil => rw [List.nil_append, List.dropWhile_cons_of_neg (by simp)]
  | cons p r ih =>
    have h1 : p.1 ≠ x := fun e => h (by rw [← e]; exact List.mem_cons_self ..)
    rw [List.cons_append, List.dropWhile_cons_of_pos (by simpa using h1), ih (fun hm => h (List.mem_cons_of_mem _ hm))]
theorem not_mem_left {A B : Pairs} {x v : Val} (h : (keysOf (A ++ (x, v) :: B)).Nodup) : x ∉ keysOf A ∧ x ∉ keysOf B := by
  unfold keysOf at h ⊢
  rw [List.map_append, List.map_cons] at h
  have h1 := List.nodup_append.1 h
  exact ⟨fun hm => h1.2.2 _ hm _ (List.mem_cons_self ..) rfl, (List.nodup_cons.1 h1.2.1).1⟩
theorem next_stands {A B : Pairs} {nv x : Val} (hk : KeysOK (A ++ B)) (hs : Stands A x) : nextM (anew nv A ++ B) x = (firstLive B, 0) := by
  rcases hs with ⟨rfl, rfl⟩ | ⟨A', v, rfl⟩
  · rfl
  · have hm : (x, v) ∈ (A' ++ [(x, v)]) ++ B := by simp
    obtain ⟨h1, h2, _⟩ := hk.2 _ hm
    dsimp only at h1 h2
    have hx0 : x.k ≠ 0 := fun e => by
      unfold Val.bad at h2
      rw [e] at h2
      simp at h2
    have hn : (keysOf (A' ++ (x, v) :: B)).Nodup := by have := hk.1; rwa [List.append_assoc] at this
    obtain ⟨u, hu⟩ : ∃ u, anew nv [(x, v)] = [(x, u)] := by
      unfold anew
      by_cases h0 : v.k = 0
      · exact ⟨v, by simp [h0]⟩
      · exact ⟨nv, by simp [h0]⟩
    have hform : anew nv (A' ++ [(x, v)]) ++ B = anew nv A' ++ (x, u) :: B := by rw [anew_append, hu, List.append_assoc]; rfl
    have hn2 : (keysOf (anew nv A' ++ (x, u) :: B)).Nodup := by
      have : keysOf (anew nv A' ++ (x, u) :: B) = keysOf (A' ++ (x, v) :: B) := by
        have := anew_keys nv A'
        unfold keysOf at this ⊢
        rw [List.map_append, List.map_append, this]
        rfl
      rw [this]; exact hn
    have hget := getA_mem hn2 (p := (x, u)) (by simp)
    dsimp only at hget
    rw [hform]
    unfold nextM
    rw [if_neg hx0, show hasK (anew nv A' ++ (x, u) :: B) x = true by unfold hasK; rw [h2, h1, hget]; rfl, if_pos rfl, h1]
    unfold behind
    rw [dropWhile_to (by rw [anew_keys]; exact (not_mem_left hn).1)]
    rfl
theorem setA_off {L : Pairs} {k v : Val} (h : k ∉ keysOf L) : setA L k v = L := by
  unfold setA
  rw [List.map_congr_left (g := id) (fun p hp => by rw [if_neg (fun e => h (by rw [← e]; exact List.mem_map.2 ⟨p, hp, rfl⟩))]; rfl)]
  simp
theorem setA_append (A B : Pairs) (k v : Val) : setA (A ++ B) k v = setA A k v ++ setA B k v := List.map_append
theorem set_stands {A B1 B2 : Pairs} {nv x v : Val} (hk : KeysOK (A ++ (B1 ++ (x, v) :: B2))) (hd : ∀ p ∈ B1, p.2.k = 0) (hv : v.k ≠ 0) (hnv : nv.own = nv) :
    setL (anew nv A ++ (B1 ++ (x, v) :: B2)) x nv = anew nv (A ++ (B1 ++ [(x, v)])) ++ B2 ∧ getV (anew nv A ++ (B1 ++ (x, v) :: B2)) x = v := by
  have hm : (x, v) ∈ A ++ (B1 ++ (x, v) :: B2) := by simp
  obtain ⟨h1, h2, _⟩ := hk.2 _ hm
  dsimp only at h1 h2
  have hn : (keysOf ((A ++ B1) ++ (x, v) :: B2)).Nodup := by rw [List.append_assoc]; exact hk.1
  have hn2 : (keysOf (anew nv A ++ (B1 ++ (x, v) :: B2))).Nodup := by
    have : keysOf (anew nv A ++ (B1 ++ (x, v) :: B2)) = keysOf (A ++ (B1 ++ (x, v) :: B2)) := by
      have := anew_keys nv A
      unfold keysOf at this ⊢
      simp only [List.map_append, this]
    rw [this]; exact hk.1
  have hget := getA_mem hn2 (p := (x, v)) (by simp)
  dsimp only at hget
  obtain ⟨hl, hr⟩ := not_mem_left hn
  have hlA : x ∉ keysOf (anew nv A) := by
    rw [anew_keys]; exact fun hm => hl (by unfold keysOf at hm ⊢; rw [List.map_append]; exact List.mem_append_left _ hm)
  have hlB : x ∉ keysOf B1 := fun hm => hl (by unfold keysOf at hm ⊢; rw [List.map_append]; exact List.mem_append_right _ hm)
  refine ⟨?_, ?_⟩
  · unfold setL
    rw [h2, h1, hget, hnv, if_neg (by decide)]
    dsimp only
    rw [setA_append, setA_off hlA, setA_append, setA_off hlB, anew_append, anew_append, anew_dead hd]
    have e1 : setA ((x, v) :: B2) x nv = (x, nv) :: B2 := by
      have := setA_off (v := nv) hr
      unfold setA at this ⊢
      rw [List.map_cons, this, if_pos rfl]
    rw [e1]
    simp [anew, hv]
  · unfold getV
    rw [h2, h1, hget]
    rfl
theorem live_anew {A B : Pairs} (hB : ∀ p ∈ B, p.2.k = 0) : liveL (anew Val.nil A ++ B) = 0 := by
  unfold liveL
  rw [List.countP_eq_zero]
  intro p hp
  rcases List.mem_append.1 hp with hp | hp
  · unfold anew at hp
    obtain ⟨q, _, rfl⟩ := List.mem_map.1 hp
    split
    · rename_i h; simp [h]
    · simp
  · simp [hB p hp]
theorem want_nil {B : Pairs} (h : wantOf B = []) : ∀ p ∈ B, p.2.k = 0 := by
  intro p hp
  unfold wantOf at h
  have h1 := List.map_eq_nil_iff.1 h
  have := List.filter_eq_nil_iff.1 h1 p hp
  simpa using this
theorem Dct.len_le {Z : Nat → Prop} {w0 w : World} {d N : Nat} {L : Pairs} {B : List (Nat × Val)} (h : Dct Z w0 w d L N B) : L.length ≤ N := by
  obtain ⟨X, ⟨es, ev, tb, T, _, rfl, h2⟩, _⟩ := h
  exact Nat.le_trans (absE_len es) h2
/-- A value behind a row of values, beside a dictionary: what of the other blocks is left alone. -/
theorem Dct.append_val {Z Y : Nat → Prop} {w0 w : World} {d N : Nat} {L : Pairs} {B : List (Nat × Val)} (h : Dct Z w0 w d L N B) {v : Value} {l : List Val} (hov : OwnV w w0.heap.size v l) (hvz : ∀ b, v.ownBlock = some b → Z b) (hY : ∀ b, Y b → Z b ∧ v.ownBlock ≠ some b ∧ b < w.heap.size) (hB : ∀ p ∈ B, v.ownBlock ≠ some p.1) (x : Val) (hl : l.length ≤ 1048576) :
    ∃ v' w', (Builtin.append_ #[55, 55] 55 #[v, .slice (some ⟨w.heap.size, 0, none⟩) 1 1]).run Try.prog (w.alloc (.cells #[.int .i64 x.k, .int .i64 x.n, .string x.s] 57)) = .ok v' w' ∧ Dct (fun b => v'.ownBlock = some b ∨ Y b) w0 w' d L N B ∧ OwnV w' w0.heap.size v' (l ++ [x]) ∧ (∀ b, Y b → w'.heap[b]? = w.heap[b]?) ∧ ∀ b, v'.ownBlock = some b → v.ownBlock = some b ∨ w.heap.size ≤ b := by
  have hb1 : Below w.heap.size w (w.alloc (.cells #[.int .i64 x.k, .int .i64 x.n, .string x.s] 57)) := (Below.refl _ _).alloc (Nat.le_refl _) _
  obtain ⟨v', w', r, o, gr, at'⟩ := run_append_val (w.alloc (.cells #[.int .i64 x.k, .int .i64 x.n, .string x.s] 57)) w0.heap.size w.heap.size x (Blk.new w x.cells 57) v l (hov.below hb1) hl (Nat.le_trans h.bel.size hb1.size)
  have hat : ∀ b, v'.ownBlock = some b → v.ownBlock = some b ∨ w.heap.size ≤ b := fun b hb => by
    rcases at' with e | e
    · exact .inl (e.symm.trans hb)
    · have := Option.some.inj (hb.symm.trans e)
      have hs := hb1.size
      exact .inr (by omega)
  refine ⟨v', w', r, ?_, o, fun b hb => ?_, hat⟩
  · have h1 := (h.below hb1).zone (Y := fun b => v.ownBlock = some b ∨ v'.ownBlock = some b ∨ Y b) (fun b hb => by
      rcases hb with hb | hb | hb
      · exact .inl (hvz b hb)
      · rcases at' with e | e
        · exact .inl (hvz b (e.symm.trans hb))
        · have := Option.some.inj (hb.symm.trans e)
          exact .inr (by omega)
      · exact .inl (hY b hb).1)
    have hc : Chg (fun b => v.ownBlock = some b) (w.alloc (.cells #[.int .i64 x.k, .int .i64 x.n, .string x.s] 57)) w' := (Chg.refl _ _).grown gr (fun k e _ => e)
    exact (h1.chg hc (fun b hb => ⟨.inl hb, (hov.lt b hb).1⟩) (fun p hp => hB p hp)).zone (fun b hb => .inl (by
      rcases hb with hb | hb
      · exact .inr (.inl hb)
      · exact .inr (.inr hb)))
  · exact (gr.block b (by have := (hY b hb).2.2; simp; omega) (fun e => (hY b hb).2.1 e.symm)).trans (hb1.block b (hY b hb).2.2)
theorem filter_take {ks : List Val} {q : Nat} {x k : Val} (h : ks[q]? = some x) : (ks.take (q + 1)).filter (fun y => decide (y ≠ k)) = (ks.take q).filter (fun y => decide (y ≠ k)) ++ if x = k then [] else [x] := by
  obtain ⟨hlt, he⟩ := List.getElem?_eq_some_iff.1 h
  rw [List.take_succ_eq_append_getElem hlt, he, List.filter_append]
  congr 1
  by_cases e : x = k <;> simp [e]
theorem stands_size {A B : Pairs} {x : Val} (hk : KeysOK (A ++ B)) (hs : Stands A x) : x.s.size ≤ maxLen := by
  rcases hs with ⟨_, rfl⟩ | ⟨A', v, rfl⟩
  · exact Nat.zero_le _
  · exact (hk.2 (x, v) (by simp)).2.2
theorem anew_len (nv : Val) (A B : Pairs) : (anew nv A ++ B).length = (A ++ B).length := by
  unfold anew; simp
theorem keysOf_len (L : Pairs) : (keysOf L).length = L.length := List.length_map ..
end Go.Proofs.Ytmjfmfelbmbniaa
