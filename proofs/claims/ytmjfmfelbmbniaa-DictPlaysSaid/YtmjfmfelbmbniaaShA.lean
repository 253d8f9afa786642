/- Layer 12: copies of a list of strings and of a map; a tree of shapes in memory. -/
import Derived.Test.YtmjfmfelbmbniaaProg
import Derived.Test.YtmjfmfelbmbniaaHK
import Derived.Test.YtmjfmfelbmbniaaShM
import Derived.Outline
import Derived.Laws.Externs
import Derived.MapKept
import Derived.KernelRfl
import Derived.Shelf.SlMaps.Clone
namespace Go.Proofs.Ytmjfmfelbmbniaa
open Go.RowKit Go.Maps HK ShM
set_option linter.unusedVariables false
set_option linter.unusedSimpArgs false
theorem law9 : Keyed Try.prog 9 := string_keyed Try.underlying9
theorem zero3 (w : World) : (zeroValue 3).run Try.prog w = .ok (.int .i64 0) w := by kernel_rfl
theorem zero38 (w : World) : (zeroValue 38).run Try.prog w = .ok (.int .u64 0) w := by kernel_rfl
theorem info9 : (Try.prog.info? 9).map (fun i => (i.zero, i.size, i.bytes)) = some (some (.string ByteArray.empty), 1, 16) := by kernel_rfl
theorem info171 : (Try.prog.info? 171).map (fun i => (i.zero, i.size, i.bytes)) = some (some (.pointer none), 1, 8) := by kernel_rfl
/-- A row of strings: what a slice value holds. -/
abbrev Strs (w : World) (v : Value) (ks : List ByteArray) : Prop := w.ownsRow 0 9 1 v ks.length (ks.map .string)
theorem strs_oneCell (ks : List ByteArray) : ∀ u ∈ ks.map Value.string, u.oneCell' = true := by
  intro u hu; obtain ⟨s, _, rfl⟩ := List.mem_map.1 hu; rfl
theorem addr0 (b j : Nat) : (⟨b, 0, none⟩ : Addr).add j = ⟨b, j, none⟩ := by unfold Addr.add; split <;> simp_all
theorem clone_nil (w : World) : Calls Try.prog 104 #[.slice none 0 0] w fun e w' => e = .returned (.slice none 0 0) ∧ w = w' := by
  have q := fun (w : World) (a : Option Addr) (l c : Nat) => Lib.run_eql_slice_nil (P := Try.prog) w 22 9 a l c 0 0 Try.underlying22
  go_enter Try.func104, Try.ntmps104
  go_wp2
  go_ret
  exact ⟨rfl, rfl⟩
set_option maxHeartbeats 1000000 in
theorem clone_strs (w : World) (b n cap : Nat) (ks : List ByteArray) (h : Strs w (.slice (some ⟨b, 0, none⟩) n cap) ks) (hn : n = ks.length) (hb : ks.length ≤ 1000000) :
    Calls Try.prog 104 #[.slice (some ⟨b, 0, none⟩) n cap] w fun e w' => ∃ v, e = .returned v ∧ Strs w' v ks ∧ (∀ g, v.ownBlock = some g → w.heap.size ≤ g) ∧ (∃ a m, v = .slice (some a) ks.length m) ∧ Below w.heap.size w w' := by
  subst hn
  obtain ⟨i0, hi, hz0, hz1, hz2⟩ := info_parts info9
  have hm : maxLen = 9223372036854775807 := rfl
  have hl : (ks.map Value.string).length = ks.length * 1 := by simp
  have hc : ∀ j u, (ks.map Value.string)[j]? = some u → (w.alloc (.cells #[] 9)).cell? ((⟨b, 0, none⟩ : Addr).add j) = some u := fun j u hu => (h.alloc _).cells (g := b) rfl j u hu
  have ho : (w.alloc (.cells #[] 9)).ownsRow w.heap.size 9 1 (.slice (some ⟨w.heap.size, 0, none⟩) 0 0) 0 [] := World.ownsRow_made w #[] 0 (Nat.le_refl _) (by omega) rfl
  have H0 := Lib.hid hc
  have H1 := Lib.hid ho
  have H2 := Lib.hid hl
  have H3 := Lib.hid hb
  have H4 := Lib.hid hm
  clear hc ho hl h hb hm
  have q := fun (w : World) (a : Option Addr) (l c : Nat) => Lib.run_eql_slice_nil (P := Try.prog) w 22 9 a l c 0 0 Try.underlying22
  go_enter Try.func104, Try.ntmps104
  go_wp2_with (at_builtin; refine wpList_append_own_at _ rfl _ _ 22 rfl w.heap.size 9 i0 (.string ByteArray.empty) 1 16 Try.underlying22 hi hz0 hz1 hz2 rfl (by decide) _ 0 [] rfl H1.out ⟨b, 0, none⟩ ks.length cap (ks.map .string) rfl H2.out H0.out (strs_oneCell ks) (by have := H3.out; have := H4.out; omega) (by have := H3.out; omega) (by simp) ?_; intro v w1 hown hg hnil hat)
  go_ret
  rw [Nat.zero_add, List.nil_append] at hown
  refine ⟨v, rfl, ⟨hown.1, ?_⟩, fun g hv => (hown.lt g hv).1, ?_, ((Below.refl _ _).alloc (Nat.le_refl _) _).grown hg (by simp) (fun k hk => by cases hk; exact Nat.le_refl _)⟩
  · rcases hown.2 with h | ⟨g, c, cur, h1, _, h3⟩
    · exact .inl h
    · exact .inr ⟨g, c, cur, h1, Nat.zero_le _, h3⟩
  · rcases hown.2 with ⟨h, _⟩ | ⟨g, c, cur, h1, _⟩
    · have := (hnil.1 h).1; cases this
    · exact ⟨_, _, h1⟩
set_option maxHeartbeats 1000000 in
set_option maxRecDepth 10000 in
theorem clone_map (b : Nat) (es : Array MapEntry) (clock : Nat) (w : World) (hb : w.heap[b]? = some (.map es clock)) :
    Calls Try.prog 105 #[.map (some b)] w fun e w' => e = .returned (.map (some w.heap.size)) ∧ w' = w.alloc (.map es clock) := by
  have hq := fun w => run_eql_map_nil_sl (P := Try.prog) w 173 9 3 (some b) Try.underlying173
  have hta := fun (w : World) (v : Value) => run_typeAssert_map_sl (P := Try.prog) w 173 20 9 3 v Try.underlying173
  go_enter Try.func105, Try.ntmps105
  go_wp2
  rw [run_callFunc_extern Try.func147 (by kernel_rfl) (by kernel_rfl) (by kernel_rfl) (e := Extern.MapsClone.clone) (by kernel_rfl), run_maps_clone_sl w 173 hb]
  simp only [Result.andThen]
  rw [Oper.upon_value]
  go_wp2
  go_ret
  exact ⟨rfl, rfl⟩
end Go.Proofs.Ytmjfmfelbmbniaa
