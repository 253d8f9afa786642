/- Layer 13: a value written anew, a key added: what they make of the memory. Plain lemmas. -/
import Derived.Test.YtmjfmfelbmbniaaDiL
namespace Go.Proofs.Ytmjfmfelbmbniaa
open Go.RowKit Go.Maps HK ShM
set_option linter.unusedVariables false
set_option linter.unusedSimpArgs false
def setL (L : Pairs) (x v : Val) : Pairs := if x.bad then L else match getA L (keyV x) with
  | some _ => setA L (keyV x) v.own
  | none => if v.own.k = 0 then L else L ++ [(keyV x, v.own)]
def setF (L : Pairs) (x v : Val) : Bool := !x.bad && (getA L (keyV x)).isNone && !decide (v.own.k = 0)
theorem own_key (x : Val) (hb : x.bad = false) : x.own.own = x.own ∧ x.own.bad = false := by
  obtain ⟨k, n, s⟩ := x
  simp only [Val.bad, Val.strange, Bool.or_eq_false_iff, decide_eq_false_iff_not] at hb
  obtain ⟨h0, h1, h2⟩ := hb
  have h7 : k = 1 ∨ k = 2 ∨ k = 3 ∨ k = 4 ∨ k = 5 ∨ k = 6 ∨ k = 7 := by omega
  rcases h7 with rfl | rfl | rfl | rfl | rfl | rfl | rfl
  · by_cases h : n = 0 <;> simp [Val.own, Val.bad, Val.strange, h]
  all_goals simp [Val.own, Val.bad, Val.strange]
theorem keyV_key (x : Val) (hb : x.bad = false) : keyV (keyV x) = keyV x ∧ (keyV x).bad = false := by
  have h := own_key x hb
  have e : keyV x = x.own := by unfold keyV; rw [hb]; rfl
  rw [e]
  refine ⟨?_, h.2⟩
  unfold keyV
  rw [h.2]
  exact h.1
theorem canon_key (x : Val) (hb : x.bad = false) (hx : x.s.size ≤ maxLen) : Canon (keyV x) := by
  have h := own_key x hb
  have e : keyV x = x.own := by unfold keyV; rw [hb]; rfl
  exact ⟨by rw [e]; exact h.1, (keyV_key x hb).2, keyV_size hx⟩
section
variable {w w' : World} {X : Nat → Prop} {d N : Nat} {L : Pairs}
theorem DIn.setv {es : List Ent} {g cap tb i : Nat} {T : List Nat} {k v o : Val} (h : DIn w X d es (.slice (some ⟨g, 0, none⟩) es.length cap) tb T) (hi : es[i]? = some (some (k, v))) (lv' : Int) (e2 : lv' = (liveL (absE es) : Int) + (o.lives - v.lives)) :
    DIn ((((w.setCell ⟨d, 3, none⟩ (.int .i64 lv')).setCell ⟨g, i * 7 + 3, none⟩ (.int .i64 o.k)).setCell ⟨g, i * 7 + 4, none⟩ (.int .i64 o.n)).setCell ⟨g, i * 7 + 5, none⟩ (.string o.s)) X d (es.set i (some (k, o))) (.slice (some ⟨g, 0, none⟩) es.length cap) tb T := by
  have hD := getD_of_get hi
  have hlt := (List.getElem?_eq_some_iff.1 hi).1
  have hdg : d ≠ g := blk_ne_row h.mem.hd h.mem.rows rfl (by decide)
  have hdt : d ≠ tb := h.mem.hd.ne h.mem.tab (by decide)
  have hgt : tb ≠ g := blk_ne_row h.mem.tab h.mem.rows rfl (by decide)
  have hlen := flatE_len es
  have q1 : ((es.length : Int) - (absE es).length) = ((es.set i (some (k, o))).length : Int) - (absE (es.set i (some (k, o)))).length := by rw [List.length_set, len_set hD]
  have q2 : lv' = (liveL (absE (es.set i (some (k, o)))) : Int) := by rw [e2, live_set hD]
  refine ⟨⟨?_, ?_, ?_⟩, h.tab.over (fun k' v' e => by cases e; exact ⟨v, hD⟩), uniq_set h.uniq hlt (fun k' v' e => by cases e; exact ⟨v, hD⟩), ?_, h.ownD, h.ownT, h.ownE, fun b hb => by simpa using h.lt b hb⟩
  · rw [← q1, ← q2]
    exact (((h.mem.hd.setSame 3 _).setOther hdg _).setOther hdg _).setOther hdg _
  · rw [← flatE_set hi, List.length_set]
    have r := ownsRow_of (w' := w.setCell ⟨d, 3, none⟩ (.int .i64 lv')) h.mem.rows (fun g' hg => by cases hg; exact Below.heap_setCell _ _ _ _ (Ne.symm hdg))
    exact row_set (row_set (row_set r (by omega) _) (by simp; omega) _) (by simp; omega) _
  · exact (((h.mem.tab.setOther (Ne.symm hdt) _).setOther hgt _).setOther hgt _).setOther hgt _
  · intro j k' v' hj
    rw [getD_set_ent hlt] at hj
    by_cases e : j = i
    · rw [if_pos e] at hj; cases hj; exact h.canon i k v hD
    · rw [if_neg e] at hj; exact h.canon j k' v' hj
theorem DMem.setLive {es : List Ent} {ev : Value} {tb : Nat} {T : List Nat} {dr lv : Int} (h : DMem w d ev tb T es dr lv) (lv' : Int) : DMem (w.setCell ⟨d, 3, none⟩ (.int .i64 lv')) d ev tb T es dr lv' :=
  ⟨h.hd.setSame 3 _, ownsRow_of h.rows (fun g hg => Below.heap_setCell _ _ _ _ (fun e => blk_ne_row h.hd h.rows hg (by decide) e.symm)), h.tab.setOther (Ne.symm (h.hd.ne h.tab (by decide))) _⟩
theorem DIn.added {es : List Ent} {ev ev' : Value} {tb : Nat} {T : List Nat} {k v : Val} {w1 : World} (h : DIn w X d es ev tb T) (hab : ∀ i w', es.getD i none ≠ some (k, w')) (hc : Canon k) (hv : v.k ≠ 0) (hf : 4 * (es.length + 1) ≤ 3 * T.length)
    (hrow : w1.ownsRow 0 190 7 ev' (es.length + 1) (flatE (es ++ [some (k, v)]))) (hC : Chg (fun b => ev.ownBlock = some b) w w1) (hat : ∀ g, ev'.ownBlock = some g → ev.ownBlock = some g ∨ w.heap.size ≤ g) (lv' : Int) (e2 : lv' = (liveL (absE es) : Int) + 1) (n' : Nat) (e1 : n' = es.length + 1) :
    DIn (((w1.setCell ⟨d, 0, none⟩ ev').setCell ⟨tb, (findM T es k).1, none⟩ (.int .i64 (n' : Nat))).setCell ⟨d, 3, none⟩ (.int .i64 lv')) (fun b => X b ∨ ev'.ownBlock = some b) d (es ++ [some (k, v)]) ev' tb (T.set (findM T es k).1 (es.length + 1)) := by
  subst e1
  have hdt : d ≠ tb := h.mem.hd.ne h.mem.tab (by decide)
  have hd1 : Blk w1 d 185 _ := h.mem.hd.of (hC.block d h.mem.hd.lt (fun hg => blk_ne_row h.mem.hd h.mem.rows hg (by decide) rfl))
  have ht1 : Blk w1 tb 3 _ := h.mem.tab.of (hC.block tb h.mem.tab.lt (fun hg => blk_ne_row h.mem.tab h.mem.rows hg (by decide) rfl))
  have eabs : absE (es ++ [some (k, v)]) = absE es ++ [(k, v)] := by rw [absE_append]; rfl
  have q1 : ((es.length : Int) - (absE es).length) = ((es ++ [some (k, v)]).length : Int) - (absE (es ++ [some (k, v)])).length := by rw [eabs]; simp; omega
  have q2 : lv' = (liveL (absE (es ++ [some (k, v)])) : Int) := by
    rw [e2, eabs]
    unfold liveL
    rw [List.countP_append]
    simp [hv]
  have hM : DMem (w1.setCell ⟨d, 0, none⟩ ev') d ev' tb T (es ++ [some (k, v)]) (((es ++ [some (k, v)]).length : Int) - (absE (es ++ [some (k, v)])).length) (liveL (absE es)) := by
    refine ⟨?_, ?_, ?_⟩
    · rw [← q1]
      exact hd1.setSame 0 ev'
    · rw [List.length_append, List.length_singleton]
      exact ownsRow_of hrow (fun g hg => Below.heap_setCell _ _ _ _ (fun e => blk_ne_row hd1 hrow hg (by decide) e.symm))
    · exact ht1.setOther (Ne.symm hdt) _
  have hM1 := hM.setTab (findM T es k).1 (es.length + 1)
  have hM2 := hM1.setLive lv'
  rw [q2] at hM2
  rw [q2]
  refine ⟨hM2, h.tab.put hab v hf, uniq_snoc h.uniq hab, ?_, .inl h.ownD, .inl h.ownT, fun g hg => .inr hg, fun b hb => ?_⟩
  · intro j k' v' hj
    rw [getD_snoc] at hj
    by_cases e : j = es.length
    · rw [if_pos e] at hj; cases hj; exact hc
    · rw [if_neg e] at hj; exact h.canon j k' v' hj
  · rcases hb with hb | hb
    · simpa using Nat.lt_of_lt_of_le (h.lt b hb) hC.size
    · simpa using (hrow.lt b hb).2
end
end Go.Proofs.Ytmjfmfelbmbniaa
