/- Layer 13: steps behind one another. -/
import Derived.Test.YtmjfmfelbmbniaaDiO
import Derived.Test.YtmjfmfelbmbniaaDiY
import Derived.Test.YtmjfmfelbmbniaaVb
namespace Go.Proofs.Ytmjfmfelbmbniaa
open Go.RowKit Go.Maps HK ShM
set_option linter.unusedVariables false
set_option linter.unusedSimpArgs false
def flatO (l : List OpV) : List Value := l.flatMap OpV.cells
theorem flatO_len (l : List OpV) : (flatO l).length = l.length * 7 := by
  induction l with
  | nil => rfl
  | cons x r ih => rw [flatO, List.flatMap_cons, List.length_append]; rw [flatO] at ih; rw [ih]; simp only [List.length_cons, List.length_nil]; omega
theorem flatO_at : ∀ {l : List OpV} {i c : Nat} {x : OpV}, l[i]? = some x → c < 7 → (flatO l)[i * 7 + c]? = x.cells[c]?
  | [], i, c, x, h, hc => by simp at h
  | y :: r, 0, c, x, h, hc => by
    simp at h; subst h
    rw [flatO, List.flatMap_cons, Nat.zero_mul, Nat.zero_add, List.getElem?_append_left (by simpa using hc)]
  | y :: r, i + 1, c, x, h, hc => by
    rw [flatO, List.flatMap_cons, List.getElem?_append_right (by show 7 ≤ _; omega), show (i + 1) * 7 + c - (OpV.cells y).length = i * 7 + c by show (i + 1) * 7 + c - 7 = _; omega]
    exact flatO_at (l := r) (by simpa using h) hc
theorem flatO_get {l : List OpV} {j : Nat} {u : Value} (h : (flatO l)[j]? = some u) : ∃ x, l[j / 7]? = some x ∧ x.cells[j % 7]? = some u := by
  have hlt := (List.getElem?_eq_some_iff.1 h).1
  rw [flatO_len] at hlt
  have h1 : j / 7 < l.length := by omega
  refine ⟨l[j / 7], List.getElem?_eq_getElem h1, ?_⟩
  have := flatO_at (l := l) (i := j / 7) (c := j % 7) (List.getElem?_eq_getElem h1) (by omega)
  rw [show j / 7 * 7 + j % 7 = j by omega, h] at this
  exact this.symm
theorem flatO_oneCell (l : List OpV) : ∀ u ∈ flatO l, u.oneCell' = true := by
  intro u hu
  obtain ⟨x, _, hx⟩ := List.mem_flatMap.1 hu
  simp at hx
  rcases hx with rfl | rfl | rfl | rfl | rfl | rfl | rfl <;> rfl
theorem RdO.of_row {w : World} {base : Nat} {v : Value} {l : List OpV} (h : w.ownsRow base 59 7 v l.length (flatO l)) (hl : l.length ≤ 140737488355328) (hz : ∀ x ∈ l, x.k.s.size ≤ 140737488355328 ∧ x.v.s.size ≤ 140737488355328) : RdO w v l := by
  rcases h.2 with ⟨rfl, hn⟩ | ⟨g, cap, cur, rfl, _, hg, hc, hm, _⟩
  · obtain rfl : l = [] := List.eq_nil_of_length_eq_zero hn
    exact ⟨none, 0, rfl, Nat.le_refl _, Nat.zero_le _, Nat.zero_le _, fun j x hj => by simp at hj⟩
  · refine ⟨some ⟨g, 0, none⟩, cap, rfl, hc, hm, hl, fun j x hj => ⟨hz x (List.mem_of_getElem? hj), g, 0, rfl, fun i u hu => ?_⟩⟩
    have hi : i < 7 := (List.getElem?_eq_some_iff.1 hu).1
    have := h.cells (g := g) rfl (j * 7 + i) u (by rw [flatO_at hj hi, hu])
    rw [addr0] at this
    rwa [Nat.zero_add]
theorem info59 : (Try.prog.info? 59).map (fun i => (i.zero, i.size, i.bytes)) = some (some (.agg #[.int .i64 0, .int .i64 0, .int .i64 0, .string ByteArray.empty, .int .i64 0, .int .i64 0, .string ByteArray.empty]), 7, 72) := by kernel_rfl
theorem run_append_ops (w : World) (base b : Nat) (x : OpV) (hb : w.ownsRow base 59 7 (.slice (some ⟨b, 0, none⟩) 1 1) 1 x.cells) (hx : x.k.s.size ≤ 140737488355328 ∧ x.v.s.size ≤ 140737488355328) (lv : Value) (l : List OpV) (hl : RdO w lv l) (h72 : l.length * 72 ≤ 140737488351232) (hbase : base ≤ w.heap.size) :
    ∃ v' w', (Builtin.append_ #[51, 51] 51 #[.slice (some ⟨b, 0, none⟩) 1 1, lv]).run Try.prog w = .ok v' w' ∧ RdO w' v' (x :: l) ∧ Below base w w' := by
  obtain ⟨i0, hi, hz0, hz1, hz2⟩ := info_parts info59
  obtain ⟨a, c, rfl, h3, h4, h5, h6⟩ := hl
  have hm : maxLen = 9223372036854775807 := rfl
  match a with
  | none =>
    have hl0 : l = [] := by
      cases l with
      | nil => rfl
      | cons x r => obtain ⟨_, b, off, e, _⟩ := h6 0 x rfl; cases e
    subst hl0
    have hsrc : Src Try.prog i0.size 51 (.slice none 0 c) 0 [] w := Src.ofNil w Try.underlying51 c
    have := run_append_nothing (P := Try.prog) w 51 51 51 59 i0 Try.underlying51 hi (some ⟨b, 0, none⟩) 1 1 (Nat.le_refl _) _ hsrc
    refine ⟨_, _, this, RdO.of_row (l := [x]) (by simpa [flatO] using hb) (by simp) (by simpa using hx), Below.refl _ _⟩
  | some ad =>
    obtain ⟨v', w', r1, r2, r3, r4, r5⟩ := run_append_own_at (P := Try.prog) w base 51 51 59 i0 _ 7 72 Try.underlying51 hi hz0 hz1 hz2 rfl (by decide) (.slice (some ⟨b, 0, none⟩) 1 1) 1 _ hb ad l.length c (flatO l) (flatO_len l) (fun j u hu => by
      obtain ⟨y, hy, hc⟩ := flatO_get hu
      obtain ⟨_, b, off, e, hc1⟩ := h6 (j / 7) y hy
      cases e
      have e2 : (⟨b, off, none⟩ : Addr).add j = ⟨b, off + j, none⟩ := by unfold Addr.add; split <;> simp_all
      rw [e2]
      have := hc1 (j % 7) u hc
      rwa [show off + j / 7 * 7 + j % 7 = off + j by omega] at this) (flatO_oneCell l) (by omega) (by omega) hbase
    refine ⟨v', w', r1, RdO.of_row (base := base) (by rw [show flatO (x :: l) = x.cells ++ flatO l from rfl, List.length_cons, Nat.add_comm]; exact r2) (by simp; omega) (fun y hy => ?_), (Below.refl _ _).grown r3 hbase (fun q hq => (hb.lt q hq).1)⟩
    rcases List.mem_cons.1 hy with rfl | hy
    · exact hx
    · obtain ⟨j, hj⟩ := List.getElem?_of_mem hy
      exact (h6 j y hj).1
end Go.Proofs.Ytmjfmfelbmbniaa
