/- Layer 13: steps as they come in; great. -/
import Derived.Test.YtmjfmfelbmbniaaDiX
namespace Go.Proofs.Ytmjfmfelbmbniaa
open Go.RowKit Go.Maps HK ShM
set_option linter.unusedVariables false
set_option linter.unusedSimpArgs false
attribute [local go_sem ↓] run_max_two run_min_two
/-- A step: which, a key, a value. -/
structure OpV where
  c : Int
  k : Val
  v : Val
abbrev OpV.cells (x : OpV) : List Value := [.int .i64 x.c, .int .i64 x.k.k, .int .i64 x.k.n, .string x.k.s, .int .i64 x.v.k, .int .i64 x.v.n, .string x.v.s]
/-- A slice of steps that is only read. -/
def RdO (w : World) (v : Value) (l : List OpV) : Prop := ∃ a c, v = .slice a l.length c ∧ l.length ≤ c ∧ c ≤ maxLen ∧ l.length ≤ 140737488355328 ∧ ∀ j x, l[j]? = some x → (x.k.s.size ≤ 140737488355328 ∧ x.v.s.size ≤ 140737488355328) ∧ ∃ b off, a = some ⟨b, off, none⟩ ∧ ∀ i u, x.cells[i]? = some u → w.cell? ⟨b, off + j * 7 + i, none⟩ = some u
theorem RdO.below {w w' : World} {v : Value} {l : List OpV} {N : Nat} (h : RdO w v l) (hb : Below N w w') (hN : w.heap.size ≤ N) : RdO w' v l := by
  obtain ⟨a, c, rfl, h1, h2, h20, h3⟩ := h
  refine ⟨a, c, rfl, h1, h2, h20, fun j s hj => ?_⟩
  obtain ⟨hs, b, off, rfl, hc⟩ := h3 j s hj
  exact ⟨hs, b, off, rfl, fun i u hu => (hb.cell (Nat.lt_of_lt_of_le (World.block_lt_of_cell? w _ (hc i u hu)) hN)).trans (hc i u hu)⟩
/-- What 'great' says: when it says no, there are few steps. -/
def GreatO (w : World) (nl : Nat) (e : Ending) (w' : World) : Prop := ∃ g : Bool, e = .returned (.bool g) ∧ (g = false → nl ≤ 600) ∧ Below w.heap.size w w'
set_option maxHeartbeats 2000000 in
set_option maxRecDepth 20000 in
theorem dgreat_calls (lv : Value) (l : List OpV) (w : World) (hl : RdO w lv l) :
    Calls Try.prog 41 #[lv] w (GreatO w l.length) := by
  obtain ⟨a, c, rfl, hlc, hcm, h47, hcell⟩ := hl
  have HC := Lib.hid hcell
  have hcm' : c ≤ 9223372036854775807 := hcm
  obtain ⟨n2, hn2⟩ : ∃ n, n = l.length := ⟨_, rfl⟩
  have E2 := Lib.hid hn2
  rw [← hn2] at hlc h47 ⊢
  clear hcell hcm hn2
  go_enter Try.func41, Try.ntmps41
  go_wp2_with fail
  go_loopw [3, 8] (fun n i wr => ∃ k m : Nat, k ≤ n2 ∧ i = .int .i64 k ∧ n = .int .i64 m ∧ m ≤ 50 * k ∧ Hid (Below w.heap.size w wr)) (fun _ i _ => n2 - (intOf i).toNat)
  case atStart => exact ⟨0, 0, by omega, rfl, rfl, by omega, Lib.hid (Below.refl _ _)⟩
  case round =>
    obtain ⟨k, m, hk, rfl, rfl, hm2, hB⟩ := hrel
    by_cases hlt : k < n2
    · have hkl : k < l.length := by rw [← E2.out]; exact hlt
      obtain ⟨x, hx⟩ : ∃ x, l[k]? = some x := ⟨_, List.getElem?_eq_getElem hkl⟩
      obtain ⟨⟨hs1, hs2⟩, b, off, rfl, hcl⟩ := HC.out k x hx
      have hc := fun i u hu => (hB.out.cell (World.block_lt_of_cell? w _ (hcl i u hu))).trans (hcl i u hu)
      have u0 := hc 0 _ rfl
      have u1 := hc 1 _ rfl
      have u2 := hc 2 _ rfl
      have u3 := hc 3 _ rfl
      have u4 := hc 4 _ rfl
      have u5 := hc 5 _ rfl
      have u6 := hc 6 _ rfl
      rw [Nat.add_zero] at u0
      clear hc hcl hx hkl
      go_wp2_with fail
      go_roundw
      case rel => exact ⟨k + 1, m + min (x.k.s.size + x.v.s.size) 1000 / 20, by omega, by go_num, by congr 1; omega, by omega, Lib.hid (hB.out.alloc hB.out.size _)⟩
      case measure => simp [intOf]; omega
    · obtain rfl : k = n2 := by omega
      go_wp2_with fail
      all_goals
        go_ret
        refine ⟨_, rfl, fun h => ?_, hB.out⟩
        first | (simp at h; omega) | (simp at h)
end Go.Proofs.Ytmjfmfelbmbniaa
