/- Layer 13: New; Set of no dictionary. -/
import Derived.Test.YtmjfmfelbmbniaaDiS
import Derived.Test.YtmjfmfelbmbniaaDiN
namespace Go.Proofs.Ytmjfmfelbmbniaa
open Go.RowKit Go.Maps HK ShM
set_option linter.unusedVariables false
set_option linter.unusedSimpArgs false
set_option maxRecDepth 20000 in
theorem dnew_calls (w : World) : Calls Try.prog 42 #[] w fun e w' => ∃ d X, e = .returned (.pointer (some ⟨d, 0, none⟩)) ∧ DAt w' X d [] 0 ∧ (∀ b, X b → w.heap.size ≤ b) ∧ Below w.heap.size w w' := by
  obtain ⟨i3, hi3, hz3, hz31, hz32⟩ := info_parts info3
  go_enter Try.func42, Try.ntmps42
  go_wp2_with (at_make; refine wpList_make_full _ rfl _ _ 46 rfl w.heap.size 3 i3 (.int .i64 0) 1 Try.underlying46 hi3 hz3 hz31 .i64 .i64 8 8 8 rfl rfl rfl rfl (by rw [hz32]; decide) (by decide) (Nat.le_refl _) ?_; intro w3 hrow hgr; have HT := Lib.hid hrow; have HG := Lib.hid hgr; clear hrow hgr)
  go_ret
  have hb : Below w.heap.size w w3 := (Below.refl _ _).grown HG.out (Nat.le_refl _) (fun k e => by cases e)
  have h1 := HT.out
  rw [Nat.mul_one, show (Value.int .i64 0).cells = #[.int .i64 0] from rfl, toList_madeCells_one] at h1
  have ht := row_full h1
  refine ⟨_, fun b => b = w3.heap.size ∨ b = w.heap.size, rfl, ⟨[], .slice none 0 0, w.heap.size, List.replicate (2 ^ 3) 0, ⟨⟨by have h := Blk.new w3 [.slice none 0 0, .slice (some ⟨w.heap.size, 0, none⟩) 8 8, .int .i64 0, .int .i64 0] 185; simpa [absE, liveL] using h, ?_, ?_⟩, TabOK.none 3 (by omega) (by omega), ?_, ?_, .inl rfl, .inr rfl, ?_, ?_⟩, rfl, Nat.le_refl _⟩, ?_, ?_⟩
  · exact World.ownsRow_nil _ _ _ _
  · exact ht.alloc _
  · intro i j k v w' h; simp at h
  · intro i k v h; simp at h
  · intro g hg; cases hg
  · intro b hb
    have h2 := ht.lt
    rcases hb with rfl | rfl <;> simp <;> omega
  · intro b h; have := hb.size; rcases h with rfl | rfl <;> omega
  · exact hb.alloc hb.size _
set_option maxRecDepth 20000 in
theorem dset_nil (x v : Val) (w : World) : Calls Try.prog 44 #[.pointer none, x.v, v.v] w fun e w' => e = .returned (.tuple #[.bool false, .int .i64 19]) ∧ Below w.heap.size w w' := by
  obtain ⟨x1, x2, x3⟩ := x
  obtain ⟨v1, v2, v3⟩ := v
  go_enter Try.func44, Try.ntmps44
  go_wp2
  go_ret2
  exact ⟨rfl, by (repeat (first | exact Below.refl _ _ | (refine Below.alloc ?_ (by simp <;> omega) _)))⟩
end Go.Proofs.Ytmjfmfelbmbniaa
