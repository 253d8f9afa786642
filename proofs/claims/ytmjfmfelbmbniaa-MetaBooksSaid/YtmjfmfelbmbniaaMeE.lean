/- Layer 15: steps as they come in; great; four tables that are one another's metatables. -/
import Derived.Test.YtmjfmfelbmbniaaMeC
namespace Go.Proofs.Ytmjfmfelbmbniaa
open Go.RowKit Go.Maps HK ShM
set_option linter.unusedVariables false
set_option linter.unusedSimpArgs false
attribute [local go_sem ↓] run_max_two run_min_two
/-- A step: which, two tables, a name, a value. -/
structure OpM where
  c : Int
  a : Int
  b : Int
  s : ByteArray
  v : Val
abbrev OpM.cells (x : OpM) : List Value := [.int .i64 x.c, .int .i64 x.a, .int .i64 x.b, .string x.s, .int .i64 x.v.k, .int .i64 x.v.n, .string x.v.s]
/-- A slice of steps that is only read. -/
def RdM (w : World) (v : Value) (l : List OpM) : Prop := ∃ a c, v = .slice a l.length c ∧ l.length ≤ c ∧ c ≤ maxLen ∧ l.length ≤ 140737488355328 ∧ ∀ j x, l[j]? = some x → (x.s.size ≤ 140737488355328 ∧ x.v.s.size ≤ 140737488355328) ∧ ∃ b off, a = some ⟨b, off, none⟩ ∧ ∀ i u, x.cells[i]? = some u → w.cell? ⟨b, off + j * 7 + i, none⟩ = some u
theorem RdM.below {w w' : World} {v : Value} {l : List OpM} {N : Nat} (h : RdM w v l) (hb : Below N w w') (hN : w.heap.size ≤ N) : RdM w' v l := by
  obtain ⟨a, c, rfl, h1, h2, h20, h3⟩ := h
  refine ⟨a, c, rfl, h1, h2, h20, fun j s hj => ?_⟩
  obtain ⟨hs, b, off, rfl, hc⟩ := h3 j s hj
  exact ⟨hs, b, off, rfl, fun i u hu => (hb.cell (Nat.lt_of_lt_of_le (World.block_lt_of_cell? w _ (hc i u hu)) hN)).trans (hc i u hu)⟩
def GreatM (w : World) (nl : Nat) (e : Ending) (w' : World) : Prop := ∃ g : Bool, e = .returned (.bool g) ∧ (g = false → nl ≤ 300) ∧ Below w.heap.size w w'
set_option maxHeartbeats 2000000 in
set_option maxRecDepth 20000 in
theorem mgreat_calls (lv : Value) (l : List OpM) (w : World) (hl : RdM w lv l) :
    Calls Try.prog 74 #[lv] w (GreatM w l.length) := by
  obtain ⟨a, c, rfl, hlc, hcm, h47, hcell⟩ := hl
  have HC := Lib.hid hcell
  have hcm' : c ≤ 9223372036854775807 := hcm
  obtain ⟨n2, hn2⟩ : ∃ n, n = l.length := ⟨_, rfl⟩
  have E2 := Lib.hid hn2
  rw [← hn2] at hlc h47 ⊢
  clear hcell hcm hn2
  go_enter Try.func74, Try.ntmps74
  go_wp2_with fail
  go_loopw [3, 8] (fun n i wr => ∃ k m : Nat, k ≤ n2 ∧ i = .int .i64 k ∧ n = .int .i64 m ∧ m ≤ 50 * k ∧ Hid (Below w.heap.size w wr)) (fun _ i _ => n2 - (intOf i).toNat)
  case atStart => exact ⟨0, 0, by omega, rfl, rfl, by omega, Lib.hid (Below.refl _ _)⟩
  case round =>
    obtain ⟨k, m, hk, rfl, rfl, hm2, hB⟩ := hrel
    by_cases hlt : k < n2
    · have hkl : k < l.length := by rw [← E2.out]; exact hlt
      obtain ⟨x, hx⟩ : ∃ x, l[k]? = some x := ⟨_, List.getElem?_eq_getElem hkl⟩
      obtain ⟨⟨hs1, hs2⟩, b, off, rfl, hcl⟩ := HC.out k x hx
      have hc := fun i u hu => (hB.out.cell (World.block_lt_of_cell? w _ (hcl i u hu))).trans (hcl i u hu)
      have u0 := hc 0 _ rfl
      have u1 := hc 1 _ rfl
      have u2 := hc 2 _ rfl
      have u3 := hc 3 _ rfl
      have u4 := hc 4 _ rfl
      have u5 := hc 5 _ rfl
      have u6 := hc 6 _ rfl
      rw [Nat.add_zero] at u0
      clear hc hcl hx hkl
      go_wp2_with fail
      go_roundw
      case rel => exact ⟨k + 1, m + min (x.s.size + x.v.s.size) 1000 / 20, by omega, by go_num, by congr 1; omega, by omega, Lib.hid (hB.out.alloc hB.out.size _)⟩
      case measure => simp [intOf]; omega
    · obtain rfl : k = n2 := by omega
      go_wp2_with fail
      all_goals
        go_ret
        refine ⟨_, rfl, fun h => ?_, hB.out⟩
        first | (simp at h; omega) | (simp at h)
/-- Four tables at these places, whose metatables are among them. -/
def Four (ts : List Nat) (tabs : List T3) : Prop := tabs.map (·.1) = ts ∧ ∀ t ∈ tabs, t.2.1 = .pointer none ∨ ∃ b ∈ ts, t.2.1 = .pointer (some ⟨b, 0, none⟩)
section
variable {ts : List Nat} {tabs : List T3} {x b b' : Nat} {mp : Value} {s s' : Tab}
theorem Four.at (h : Four ts tabs) (hx : ts[x]? = some b) : ∃ mp s, tabs[x]? = some (b, mp, s) := by
  rw [← h.1, List.getElem?_map] at hx
  obtain ⟨t, ht, he⟩ := Option.map_eq_some_iff.1 hx
  exact ⟨t.2.1, t.2.2, by rw [ht, ← he]⟩
theorem Four.ref (h : Four ts tabs) (hx : tabs[x]? = some (b, mp, s)) : ∃ o, MetaOf tabs mp o := by
  rcases h.2 _ (List.mem_of_getElem? hx) with h1 | ⟨c, hc, h1⟩
  · exact ⟨none, .inl ⟨h1, rfl⟩⟩
  · obtain ⟨j, hj⟩ := List.getElem?_of_mem hc
    obtain ⟨mp', s', h2⟩ := h.at hj
    exact ⟨some s', .inr ⟨j, c, mp', s', h2, h1, rfl⟩⟩
theorem Four.put (h : Four ts tabs) (hx : tabs[x]? = some (b, mp, s)) (mp' : Value) (hm : mp' = .pointer none ∨ ∃ b ∈ ts, mp' = .pointer (some ⟨b, 0, none⟩)) : Four ts (tabs.set x (b, mp', s')) := by
  refine ⟨?_, fun t ht => ?_⟩
  · rw [List.map_set, ← h.1]
    apply List.ext_getElem?
    intro i
    by_cases e : x = i
    · subst e
      have hl := (List.getElem?_eq_some_iff.1 hx).1
      rw [List.getElem?_set_self (by rw [List.length_map]; exact hl), List.getElem?_map, hx]
      rfl
    · rw [List.getElem?_set_ne e]
  · rcases List.mem_or_eq_of_mem_set ht with h1 | rfl
    · exact h.2 t h1
    · exact hm
theorem Four.mt (h : Four ts tabs) (hx : tabs[x]? = some (b, mp, s)) : mp = .pointer none ∨ ∃ b ∈ ts, mp = .pointer (some ⟨b, 0, none⟩) := h.2 _ (List.mem_of_getElem? hx)
end
end Go.Proofs.Ytmjfmfelbmbniaa
