/- Layer 13: a dictionary's invariant; a key's entry. -/
import Derived.Test.YtmjfmfelbmbniaaDiF
namespace Go.Proofs.Ytmjfmfelbmbniaa
open Go.RowKit Go.Maps HK ShM
set_option linter.unusedVariables false
set_option linter.unusedSimpArgs false
def absE (es : List Ent) : List (Val × Val) := es.filterMap id
def liveL (L : List (Val × Val)) : Nat := L.countP (fun x => decide (x.2.k ≠ 0))
abbrev Canon (k : Val) : Prop := k.own = k ∧ k.bad = false ∧ k.s.size ≤ maxLen
structure DIn (w : World) (X : Nat → Prop) (d : Nat) (es : List Ent) (ev : Value) (tb : Nat) (T : List Nat) : Prop where
  mem : DMem w d ev tb T es ((es.length : Int) - (absE es).length) (liveL (absE es))
  tab : TabOK T es
  uniq : Uniq es
  canon : ∀ i k v, es.getD i none = some (k, v) → Canon k
  ownD : X d
  ownT : X tb
  ownE : ∀ g, ev.ownBlock = some g → X g
  lt : ∀ b, X b → b < w.heap.size
section
variable {w w' : World} {X : Nat → Prop} {d tb : Nat} {ev : Value} {T : List Nat} {es : List Ent}
theorem DIn.of (h : DIn w X d es ev tb T) (hs : w.heap.size ≤ w'.heap.size) (hb : ∀ b, X b → w'.heap[b]? = w.heap[b]?) : DIn w' X d es ev tb T :=
  { h with mem := h.mem.of (hb _ h.ownD) (hb _ h.ownT) (fun g hg => hb _ (h.ownE g hg)), lt := fun b hB => Nat.lt_of_lt_of_le (h.lt b hB) hs }
theorem DIn.below (h : DIn w X d es ev tb T) (hb : Below w.heap.size w w') : DIn w' X d es ev tb T := h.of hb.size (fun b hB => hb.block b (h.lt b hB))
theorem DIn.find (h : DIn w X d es ev tb T) (k : Val) (hk : k.s.size ≤ maxLen) : Calls Try.prog 111 #[.pointer (some ⟨d, 0, none⟩), k.v] w fun e w' => e = .returned (.tuple #[.int .i64 ((findM T es k).1 : Nat), .int .i64 (findM T es k).2]) ∧ Below w.heap.size w w' :=
  find_calls h.mem h.tab.pow h.tab.big h.tab.top h.tab.le h.tab.zero k hk
theorem keyV_size {x : Val} (hx : x.s.size ≤ maxLen) : (keyV x).s.size ≤ maxLen := by
  unfold keyV Val.own
  repeat' split
  all_goals first | exact hx | exact Nat.zero_le _
/-- The entry's place; none: there is none. -/
def entI (T : List Nat) (es : List Ent) (x : Val) : Int := if x.bad then -1 else (findM T es (keyV x)).2
def entP (ev : Value) (i : Int) : Value := if i < 0 then .pointer none else match ev with
  | .slice (some a) _ _ => .pointer (some ⟨a.block, i.toNat * 7, none⟩)
  | _ => .pointer none
theorem entI_hit (h : DIn w X d es ev tb T) {x v : Val} {i : Nat} (hb : x.bad = false) (hi : es.getD i none = some (keyV x, v)) : entI T es x = i := by
  unfold entI; rw [hb]; exact h.tab.found h.uniq hi
theorem entI_miss (h : DIn w X d es ev tb T) {x : Val} (hm : x.bad = true ∨ ∀ i v, es.getD i none ≠ some (keyV x, v)) : entI T es x = -1 := by
  unfold entI
  cases hb : x.bad with
  | true => rfl
  | false =>
    rcases hm with hm | hm
    · rw [hb] at hm; cases hm
    · obtain ⟨j, h1, _⟩ := h.tab.absent hm
      rw [if_neg (by simp), h1]
/-- Either the key has an entry, or it has none. -/
theorem ent_or (h : DIn w X d es ev tb T) (x : Val) : (x.bad = false ∧ ∃ i v, i < es.length ∧ es[i]? = some (some (keyV x, v)) ∧ es.getD i none = some (keyV x, v) ∧ entI T es x = i) ∨ ((x.bad = true ∨ ∀ i v, es.getD i none ≠ some (keyV x, v)) ∧ entI T es x = -1) := by
  by_cases hm : x.bad = true ∨ ∀ i v, es.getD i none ≠ some (keyV x, v)
  · exact .inr ⟨hm, entI_miss h hm⟩
  · have h1 : x.bad = false := by
      cases e : x.bad with
      | false => rfl
      | true => exact absurd (.inl e) hm
    obtain ⟨i, hi⟩ := Classical.not_forall.1 (fun h => hm (.inr h))
    obtain ⟨v, hv⟩ := Classical.not_forall.1 hi
    have hv := Classical.not_not.1 hv
    have hl : i < es.length := by
      rcases Nat.lt_or_ge i es.length with h' | h'
      · exact h'
      · rw [List.getD_eq_getElem?_getD, List.getElem?_eq_none h'] at hv; cases hv
    refine .inl ⟨h1, i, v, hl, ?_, hv, entI_hit h h1 hv⟩
    rw [List.getD_eq_getElem?_getD, List.getElem?_eq_getElem hl] at hv
    rw [List.getElem?_eq_getElem hl]
    exact congrArg some (by simpa using hv)
set_option maxHeartbeats 4000000 in
set_option maxRecDepth 20000 in
theorem entry_calls (h : DIn w X d es ev tb T) (x : Val) (hx : x.s.size ≤ maxLen) :
    Calls Try.prog 108 #[.pointer (some ⟨d, 0, none⟩), x.v] w fun e w' => e = .returned (entP ev (entI T es x)) ∧ Below w.heap.size w w' := by
  have HK := Lib.hid (fun (W : World) => key_calls x W)
  have HF := Lib.hid (fun (W : World) (h : DIn W X d es ev tb T) => h.find (keyV x) (keyV_size hx))
  have hbx : Blk (w.alloc (.cells #[.int .i64 x.k, .int .i64 x.n, .string x.s] 57)) w.heap.size 57 [.int .i64 x.k, .int .i64 x.n, .string x.s] := Blk.new w [.int .i64 x.k, .int .i64 x.n, .string x.s] 57
  have HB0 : Hid (Below w.heap.size w (w.alloc (.cells #[.int .i64 x.k, .int .i64 x.n, .string x.s] 57))) := Lib.hid (by (repeat (first | exact Below.refl _ _ | (refine Below.alloc ?_ (by simp <;> omega) _) | (refine Below.setCell ?_ (by simp <;> omega) _))))
  have HBX := Lib.hid hbx
  have HO := Lib.hid (ent_or h x)
  have HI := Lib.hid h
  have HE : Hid (keyE x = if x.bad then 15 else 0) := Lib.hid rfl
  have HEI : Hid (x.bad = false → entI T es x = (findM T es (keyV x)).2) := Lib.hid (fun hb => by unfold entI; rw [hb]; rfl)
  clear h hbx hx
  cases hbad : x.bad with
  | true =>
    have hI : entI T es x = -1 := by
      rcases HO.out with h | h
      · rw [h.1] at hbad; cases hbad
      · exact h.2
    have HII := Lib.hid hI
    rw [HE.out, hbad] at HK
    clear hI hbad
    generalize keyV x = k at *
    obtain ⟨x1, x2, x3⟩ := x
    go_enter Try.func108, Try.ntmps108
    go_wp2_with (go_at_call 43; (with_reducible refine (HK.out _).mono ?_); rintro e w1 ⟨rfl, hb⟩; have HB1 := Lib.hid (HB0.out.trans (hb.mono HB0.out.size)); clear hb)
    go_ret
    exact ⟨by rw [HII.out]; rfl, HB1.out.alloc HB1.out.size _⟩
  | false =>
    have HEI := Lib.hid (HEI.out hbad)
    rw [HE.out, hbad, if_neg (by decide)] at HK
    have hkk := Lib.hid hbad
    clear hbad
    rcases HO.out with ⟨_, i, v, hil, hie, hid, hI⟩ | ⟨_, hI⟩
    · have HII := Lib.hid hI
      rw [← HEI.out, hI] at HF
      obtain ⟨g, cap, hev, hc1, hc2, _⟩ := HI.out.mem.cell_ent hie
      have hc2' : cap ≤ 9223372036854775807 := hc2
      subst hev
      have HL := Lib.hid hie
      clear hI hie hid hc2 HO
      generalize keyV x = k at *
      obtain ⟨k1, k2, k3⟩ := k
      obtain ⟨x1, x2, x3⟩ := x
      have hi0 : (0 : Int) ≤ (i : Int) := by omega
      have hi1 : (i : Int) < (es.length : Int) := by omega
      generalize (findM T es ⟨k1, k2, k3⟩).1 = pl at *
      obtain ⟨m, hm⟩ : ∃ m, m = es.length := ⟨_, rfl⟩
      have EM := Lib.hid hm
      rw [← hm] at hi1 hil hc1
      clear hm
      go_enter Try.func108, Try.ntmps108
      go_wp2_with (first
      | (go_at_call 43; (with_reducible refine (HK.out _).mono ?_); rintro e w1 ⟨rfl, hb⟩; have HB1 := Lib.hid (HB0.out.trans (hb.mono HB0.out.size)); clear hb; have HB2 : Hid (Below w.heap.size w (w1.alloc (.cells #[.int .i64 k1, .int .i64 k2, .string k3] 57))) := Lib.hid (HB1.out.alloc HB1.out.size _))
      | (go_at_call 111; (with_reducible refine (HF.out _ (HI.out.below HB2.out)).mono ?_); rintro e w2 ⟨rfl, hb⟩; have HB3 := Lib.hid (HB2.out.trans (hb.mono HB2.out.size)); have c0 := (HI.out.below HB3.out).mem.hd.cell 0 _ rfl; rw [← EM.out] at c0; clear hb))

      go_ret
      exact ⟨by rw [HII.out]; rfl, HB3.out⟩
    · have HII := Lib.hid hI
      rw [← HEI.out, hI] at HF
      clear hI HO
      generalize keyV x = k at *
      obtain ⟨k1, k2, k3⟩ := k
      obtain ⟨x1, x2, x3⟩ := x
      generalize (findM T es ⟨k1, k2, k3⟩).1 = pl at *
      go_enter Try.func108, Try.ntmps108
      go_wp2_with (first
      | (go_at_call 43; (with_reducible refine (HK.out _).mono ?_); rintro e w1 ⟨rfl, hb⟩; have HB1 := Lib.hid (HB0.out.trans (hb.mono HB0.out.size)); clear hb; have HB2 : Hid (Below w.heap.size w (w1.alloc (.cells #[.int .i64 k1, .int .i64 k2, .string k3] 57))) := Lib.hid (HB1.out.alloc HB1.out.size _))
      | (go_at_call 111; (with_reducible refine (HF.out _ (HI.out.below HB2.out)).mono ?_); rintro e w2 ⟨rfl, hb⟩; have HB3 := Lib.hid (HB2.out.trans (hb.mono HB2.out.size)); have c0 := (HI.out.below HB3.out).mem.hd.cell 0 _ rfl; clear hb))

      go_ret
      exact ⟨by rw [HII.out]; rfl, HB3.out⟩
end
end Go.Proofs.Ytmjfmfelbmbniaa
