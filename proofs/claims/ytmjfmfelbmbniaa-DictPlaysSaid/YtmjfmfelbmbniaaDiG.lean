/- Layer 13: what a dictionary answers: Len, Live, Has, Get. -/
import Derived.Test.YtmjfmfelbmbniaaDiE
namespace Go.Proofs.Ytmjfmfelbmbniaa
open Go.RowKit Go.Maps HK ShM
set_option linter.unusedVariables false
set_option linter.unusedSimpArgs false
abbrev Pairs := List (Val × Val)
def getA (L : Pairs) (k : Val) : Option Val := (L.find? (fun x => decide (x.1 = k))).map (·.2)
def hasK (L : Pairs) (x : Val) : Bool := !x.bad && (getA L (keyV x)).isSome
def getV (L : Pairs) (x : Val) : Val := if x.bad then Val.nil else (getA L (keyV x)).getD Val.nil
theorem absE_nil : absE [] = [] := rfl
theorem absE_none (es : List Ent) : absE (none :: es) = absE es := rfl
theorem absE_some (x : Val × Val) (es : List Ent) : absE (some x :: es) = x :: absE es := rfl
theorem absE_append (es fs : List Ent) : absE (es ++ fs) = absE es ++ absE fs := List.filterMap_append
theorem getA_hit : ∀ {es : List Ent} {i : Nat} {k v : Val}, Uniq es → es.getD i none = some (k, v) → getA (absE es) k = some v
  | [], i, k, v, _, h => by simp at h
  | none :: r, 0, k, v, _, h => by simp at h
  | none :: r, i + 1, k, v, hu, h => getA_hit (es := r) (i := i) (fun a b k v w h1 h2 => by have := hu (a + 1) (b + 1) k v w (by simpa using h1) (by simpa using h2); omega) (by simpa using h)
  | some x :: r, 0, k, v, hu, h => by
    simp at h; subst h
    simp [getA, absE_some]
  | some x :: r, i + 1, k, v, hu, h => by
    have hx : x.1 ≠ k := fun e => by
      obtain ⟨x1, x2⟩ := x
      cases e
      have := hu 0 (i + 1) x1 x2 v (by simp) (by simpa using h)
      omega
    have := getA_hit (es := r) (i := i) (k := k) (v := v) (fun a b k v w h1 h2 => by have := hu (a + 1) (b + 1) k v w (by simpa using h1) (by simpa using h2); omega) (by simpa using h)
    simp only [getA, absE_some, List.find?_cons, hx, decide_false] at this ⊢
    exact this
theorem mem_absE {es : List Ent} {x : Val × Val} : x ∈ absE es ↔ ∃ i, es.getD i none = some x := by
  constructor
  · intro h
    obtain ⟨y, hy, rfl⟩ := List.mem_filterMap.1 h
    subst_vars
    obtain ⟨i, hi⟩ := List.getElem?_of_mem hy
    refine ⟨i, ?_⟩
    rw [List.getD_eq_getElem?_getD, hi]
    rfl
  · rintro ⟨i, hi⟩
    rw [List.getD_eq_getElem?_getD] at hi
    cases e : es[i]? with
    | none => rw [e] at hi; cases hi
    | some y =>
      rw [e] at hi
      exact List.mem_filterMap.2 ⟨y, List.mem_of_getElem? e, hi⟩
theorem getA_miss {es : List Ent} {k : Val} (h : ∀ i v, es.getD i none ≠ some (k, v)) : getA (absE es) k = none := by
  unfold getA
  rw [List.find?_eq_none.2]
  · rfl
  · intro x hx
    obtain ⟨i, hi⟩ := mem_absE.1 hx
    obtain ⟨a, b⟩ := x
    simp only [decide_eq_true_eq]
    rintro rfl
    exact h i b hi
/-- A dictionary of these pairs; N: not more than so many entries, dropped ones too. -/
def DAt (w : World) (X : Nat → Prop) (d : Nat) (L : Pairs) (N : Nat) : Prop := ∃ es ev tb T, DIn w X d es ev tb T ∧ absE es = L ∧ es.length ≤ N
section
variable {w w' : World} {X : Nat → Prop} {d N : Nat} {L : Pairs}
theorem DAt.below (h : DAt w X d L N) (hb : Below w.heap.size w w') : DAt w' X d L N := by
  obtain ⟨es, ev, tb, T, h, h2⟩ := h; exact ⟨es, ev, tb, T, h.below hb, h2⟩
theorem DAt.of (h : DAt w X d L N) (hs : w.heap.size ≤ w'.heap.size) (hb : ∀ b, X b → w'.heap[b]? = w.heap[b]?) : DAt w' X d L N := by
  obtain ⟨es, ev, tb, T, h, h2⟩ := h; exact ⟨es, ev, tb, T, h.of hs hb, h2⟩
theorem DAt.lt (h : DAt w X d L N) : ∀ b, X b → b < w.heap.size := by
  obtain ⟨es, ev, tb, T, h, h2⟩ := h; exact h.lt
theorem DAt.mono (h : DAt w X d L N) {M : Nat} (hM : N ≤ M) : DAt w X d L M := by
  obtain ⟨es, ev, tb, T, h, h2, h3⟩ := h; exact ⟨es, ev, tb, T, h, h2, Nat.le_trans h3 hM⟩
theorem dlive_calls (h : DAt w X d L N) : Calls Try.prog 48 #[.pointer (some ⟨d, 0, none⟩)] w fun e w' => e = .returned (.int .i64 (liveL L : Nat)) ∧ w = w' := by
  obtain ⟨es, ev, tb, T, h, rfl, h2⟩ := h
  have c3 := h.mem.hd.cell 3 _ rfl
  clear h h2
  go_enter Try.func48, Try.ntmps48
  go_wp2
  go_ret
  exact ⟨rfl, rfl⟩
theorem absE_len (es : List Ent) : (absE es).length ≤ es.length := List.length_filterMap_le _ _
theorem dlen_calls (h : DAt w X d L N) (hN : N ≤ 1048576) : Calls Try.prog 46 #[.pointer (some ⟨d, 0, none⟩)] w fun e w' => e = .returned (.int .i64 (L.length : Nat)) ∧ Below w.heap.size w w' := by
  obtain ⟨es, ev, tb, T, h, rfl, h2⟩ := h
  have c0 := h.mem.hd.cell 0 _ rfl
  have c2 := h.mem.hd.cell 2 _ rfl
  obtain ⟨ea, ec, hev⟩ := ownsRow_form h.mem.rows
  subst hev
  have hl := absE_len es
  clear h
  have hg : ((es.length : Int) - ((es.length : Int) - ((absE es).length : Int))) = ((absE es).length : Int) := by omega
  have HG := Lib.hid hg
  clear hg
  generalize (absE es).length = q at *
  generalize es.length = m at *
  go_enter Try.func46, Try.ntmps46
  go_wp2
  go_quiet (fail)
  go_wp2
  go_ret
  refine ⟨congrArg (fun z => Ending.returned (Value.int .i64 z)) HG.out, ?_⟩
  exact Below.drewN (Below.refl _ _) _
theorem ent_get (h : DAt w X d L N) (x : Val) : ∃ es ev tb T, DIn w X d es ev tb T ∧ absE es = L ∧ es.length ≤ N ∧ ((hasK L x = true ∧ x.bad = false ∧ ∃ i v, i < es.length ∧ es[i]? = some (some (keyV x, v)) ∧ entI T es x = i ∧ getV L x = v ∧ getA L (keyV x) = some v) ∨ (hasK L x = false ∧ getV L x = Val.nil ∧ entI T es x = -1 ∧ (x.bad = true ∨ getA L (keyV x) = none))) := by
  obtain ⟨es, ev, tb, T, h, rfl, h2⟩ := h
  refine ⟨es, ev, tb, T, h, rfl, h2, ?_⟩
  rcases ent_or h x with ⟨h3, i, v, h4, h5, h6, h7⟩ | ⟨h3, h4⟩
  · have := getA_hit h.uniq h6
    exact .inl ⟨by unfold hasK; rw [h3, this]; rfl, h3, i, v, h4, h5, h7, by unfold getV; rw [h3, this]; rfl, this⟩
  · refine .inr ?_
    rcases h3 with h3 | h3
    · exact ⟨by unfold hasK; rw [h3]; rfl, by unfold getV; rw [h3]; rfl, h4, .inl h3⟩
    · have := getA_miss h3
      refine ⟨by unfold hasK; rw [this]; simp, by unfold getV; rw [this]; simp, h4, .inr this⟩
set_option maxHeartbeats 2000000 in
theorem dhas_calls (h : DAt w X d L N) (x : Val) (hx : x.s.size ≤ maxLen) : Calls Try.prog 56 #[.pointer (some ⟨d, 0, none⟩), x.v] w fun e w' => e = .returned (.bool (hasK L x)) ∧ Below w.heap.size w w' := by
  obtain ⟨es, ev, tb, T, h, hL, hN, ho⟩ := ent_get h x
  have HE := Lib.hid (fun (W : World) (h : DIn W X d es ev tb T) => entry_calls h x hx)
  have HI := Lib.hid h
  have HB0 : Hid (Below w.heap.size w (w.alloc (.cells #[.int .i64 x.k, .int .i64 x.n, .string x.s] 57))) := Lib.hid (by (repeat (first | exact Below.refl _ _ | (refine Below.alloc ?_ (by simp <;> omega) _) | (refine Below.setCell ?_ (by simp <;> omega) _))))
  rcases ho with ⟨h1, h2, i, v, h3, h4, h5, h6, _⟩ | ⟨h1, h2, h3, _⟩
  · rw [h5] at HE
    obtain ⟨g, cap, hev, _⟩ := h.mem.cell_ent h4
    subst hev
    rw [h1]
    have hEP : entP (.slice (some ⟨g, 0, none⟩) es.length cap) (i : Int) = .pointer (some ⟨g, i * 7, none⟩) := by unfold entP; rw [if_neg (by omega), Int.toNat_natCast]
    rw [hEP] at HE
    clear h h1 h2 h3 h4 h5 h6 hEP
    obtain ⟨x1, x2, x3⟩ := x
    go_enter Try.func56, Try.ntmps56
    go_wp2_with (go_at_call 108; (with_reducible refine (HE.out _ (HI.out.below HB0.out)).mono ?_); rintro e w1 ⟨rfl, hb⟩; have HB1 := Lib.hid (HB0.out.trans (hb.mono HB0.out.size)); clear hb)
    go_ret
    exact ⟨rfl, HB1.out⟩
  · rw [h3] at HE
    rw [h1]
    rw [show entP ev (-1) = .pointer none from rfl] at HE
    clear h h1 h2 h3
    obtain ⟨x1, x2, x3⟩ := x
    go_enter Try.func56, Try.ntmps56
    go_wp2_with (go_at_call 108; (with_reducible refine (HE.out _ (HI.out.below HB0.out)).mono ?_); rintro e w1 ⟨rfl, hb⟩; have HB1 := Lib.hid (HB0.out.trans (hb.mono HB0.out.size)); clear hb)
    go_ret
    exact ⟨rfl, HB1.out⟩
set_option maxHeartbeats 2000000 in
theorem dget_calls (h : DAt w X d L N) (x : Val) (hx : x.s.size ≤ maxLen) : Calls Try.prog 47 #[.pointer (some ⟨d, 0, none⟩), x.v] w fun e w' => e = .returned (getV L x).v ∧ Below w.heap.size w w' := by
  obtain ⟨es, ev, tb, T, h, hL, hN, ho⟩ := ent_get h x
  have HE := Lib.hid (fun (W : World) (h : DIn W X d es ev tb T) => entry_calls h x hx)
  have HI := Lib.hid h
  have HB0 : Hid (Below w.heap.size w ((w.alloc (.cells #[.int .i64 x.k, .int .i64 x.n, .string x.s] 57)).alloc (.cells #[.int .i64 0, .int .i64 0, .string ⟨#[]⟩] 57))) := Lib.hid (by (repeat (first | exact Below.refl _ _ | (refine Below.alloc ?_ (by simp <;> omega) _) | (refine Below.setCell ?_ (by simp <;> omega) _))))
  have hbk : Blk ((w.alloc (.cells #[.int .i64 x.k, .int .i64 x.n, .string x.s] 57)).alloc (.cells #[.int .i64 0, .int .i64 0, .string ⟨#[]⟩] 57)) (w.heap.size + 1) 57 [.int .i64 0, .int .i64 0, .string ⟨#[]⟩] := by
    simpa using Blk.new (w.alloc (.cells #[.int .i64 x.k, .int .i64 x.n, .string x.s] 57)) [.int .i64 0, .int .i64 0, .string ⟨#[]⟩] 57
  have HBK := Lib.hid hbk
  clear hbk
  rcases ho with ⟨h1, h2, i, v, h3, h4, h5, h6, _⟩ | ⟨h1, h2, h3, _⟩
  · rw [h5] at HE
    obtain ⟨g, cap, hev, _⟩ := h.mem.cell_ent h4
    subst hev
    rw [h6]
    have hEP : entP (.slice (some ⟨g, 0, none⟩) es.length cap) (i : Int) = .pointer (some ⟨g, i * 7, none⟩) := by unfold entP; rw [if_neg (by omega), Int.toNat_natCast]
    rw [hEP] at HE
    have H4 := Lib.hid h4
    clear h h1 h2 h3 h4 h5 h6 hEP
    obtain ⟨x1, x2, x3⟩ := x
    go_enter Try.func47, Try.ntmps47
    go_wp2_with (go_at_call 108; (with_reducible refine (HE.out _ (HI.out.below HB0.out)).mono ?_); rintro e w1 ⟨rfl, hb⟩; have hk := var_kept HBK.out hb; have HKK := Lib.hid hk; have x0 := hk.cell 0 _ rfl; have x1 := hk.cell 1 _ rfl; have x2 := hk.cell 2 _ rfl; have f0 := hk.frozen 0; have f1 := hk.frozen 1; have f2 := hk.frozen 2; have HBL := Lib.hid (HB0.out.trans (hb.mono HB0.out.size)); obtain ⟨g', cap', hge, _, _, hcell⟩ := (HI.out.below HBL.out).mem.cell_ent H4.out; cases hge; have u3 := hcell 3 _ (by decide) rfl; have u4 := hcell 4 _ (by decide) rfl; have u5 := hcell 5 _ (by decide) rfl; clear hk hb hcell)
    refine bodyPost_ret (results_val (x := v) rfl _ rfl (((HKK.out.setSame 0 _).setSame 1 _).setSame 2 _)) rfl ⟨rfl, ?_⟩
    exact ((HBL.out.setCell (by simp) _).setCell (by simp) _).setCell (by simp) _
  · rw [h3] at HE
    rw [h2]
    rw [show entP ev (-1) = .pointer none from rfl] at HE
    clear h h1 h2 h3
    obtain ⟨x1, x2, x3⟩ := x
    go_enter Try.func47, Try.ntmps47
    go_wp2_with (go_at_call 108; (with_reducible refine (HE.out _ (HI.out.below HB0.out)).mono ?_); rintro e w1 ⟨rfl, hb⟩; have hk := var_kept HBK.out hb; have HKK := Lib.hid hk; have x0 := hk.cell 0 _ rfl; have x1 := hk.cell 1 _ rfl; have x2 := hk.cell 2 _ rfl; have f0 := hk.frozen 0; have f1 := hk.frozen 1; have f2 := hk.frozen 2; have HBL := Lib.hid (HB0.out.trans (hb.mono HB0.out.size)); clear hk hb)
    refine bodyPost_ret (results_val (x := Val.nil) rfl _ rfl (((HKK.out.setSame 0 _).setSame 1 _).setSame 2 _)) rfl ⟨rfl, ?_⟩
    exact ((HBL.out.setCell (by simp) _).setCell (by simp) _).setCell (by simp) _
end
end Go.Proofs.Ytmjfmfelbmbniaa
