/- Layer 13: the table is laid anew. -/
import Derived.Test.YtmjfmfelbmbniaaDiD
namespace Go.Proofs.Ytmjfmfelbmbniaa
open Go.RowKit Go.Maps HK ShM
set_option linter.unusedVariables false
set_option linter.unusedSimpArgs false
theorem info190 : (Try.prog.info? 190).map (fun i => (i.zero, i.size, i.bytes)) = some (some (.agg #[.int .i64 0, .int .i64 0, .string ByteArray.empty, .int .i64 0, .int .i64 0, .string ByteArray.empty, .bool false]), 7, 72) := by kernel_rfl
abbrev someE (L : Pairs) : List Ent := L.map some
theorem absE_someE (L : Pairs) : absE (someE L) = L := by
  induction L with
  | nil => rfl
  | cons x r ih => rw [someE, List.map_cons, absE_some]; rw [someE] at ih; rw [ih]
theorem absE_take_none {es : List Ent} {j : Nat} (h : es[j]? = some none) : absE (es.take (j + 1)) = absE (es.take j) := by
  obtain ⟨hlt, he⟩ := List.getElem?_eq_some_iff.1 h
  rw [List.take_succ_eq_append_getElem hlt, he, absE_append]
  simp [absE]
theorem absE_take_some {es : List Ent} {j : Nat} {x : Val × Val} (h : es[j]? = some (some x)) : absE (es.take (j + 1)) = absE (es.take j) ++ [x] := by
  obtain ⟨hlt, he⟩ := List.getElem?_eq_some_iff.1 h
  rw [List.take_succ_eq_append_getElem hlt, he, absE_append]
  simp [absE]
theorem flatE_oneCell (l : List Ent) : ∀ u ∈ flatE l, u.oneCell' = true := by
  intro u hu
  obtain ⟨x, _, hx⟩ := List.mem_flatMap.1 hu
  rcases x with _ | ⟨k, v⟩ <;> · simp [Ent.cells] at hx; rcases hx with rfl | rfl | rfl | rfl | rfl | rfl | rfl <;> rfl
/-- An entry behind a row of entries. -/
theorem run_append_ent (w : World) (base b : Nat) (x : Ent) (hb : Blk w b 190 x.cells) (v : Value) (es : List Ent) (ho : w.ownsRow base 190 7 v es.length (flatE es)) (hl : es.length ≤ 1048576) (hbase : base ≤ w.heap.size) :
    ∃ v' w', (Builtin.append_ #[183, 183] 183 #[v, .slice (some ⟨b, 0, none⟩) 1 1]).run Try.prog w = .ok v' w' ∧ w'.ownsRow base 190 7 v' (es.length + 1) (flatE (es ++ [x])) ∧ w.grownBy w' v.ownBlock ∧ (v'.ownBlock = v.ownBlock ∨ v'.ownBlock = some w.heap.size) := by
  obtain ⟨i0, hi, hz0, hz1, hz2⟩ := info_parts info190
  obtain ⟨v', w', r1, r2, r3, r4, r5⟩ := run_append_own_at (P := Try.prog) w base 183 183 190 i0 _ 7 72 Try.underlying183 hi hz0 hz1 hz2 rfl (by decide) v es.length _ ho ⟨b, 0, none⟩ 1 1 x.cells (by rw [Ent.cells_len]) (fun j u hu => by rw [addr0]; exact hb.cell j u hu)
    (fun u hu => flatE_oneCell [x] u (by simpa [flatE] using hu)) (by have : maxLen = 9223372036854775807 := rfl; omega) (by omega) hbase
  refine ⟨v', w', r1, ?_, r3, r5⟩
  rw [flatE_append, show flatE [x] = x.cells by simp [flatE]]
  exact r2
theorem uniq_cons {k v : Val} {r : List Ent} (h : Uniq r) (ha : ∀ i w, r.getD i none ≠ some (k, w)) : Uniq (some (k, v) :: r) := fun a b k' v' w' h1 h2 => by
  cases a with
  | zero =>
    cases b with
    | zero => rfl
    | succ b =>
      simp at h1
      obtain ⟨rfl, rfl⟩ := h1
      exact absurd (by simpa using h2) (ha b w')
  | succ a =>
    cases b with
    | zero =>
      simp at h2
      obtain ⟨rfl, rfl⟩ := h2
      exact absurd (by simpa using h1) (ha a v')
    | succ b =>
      have := h a b k' v' w' (by simpa using h1) (by simpa using h2); omega
theorem getD_someE {L : Pairs} {i : Nat} {x : Val × Val} (h : (someE L).getD i none = some x) : x ∈ L := by
  have : x ∈ absE (someE L) := mem_absE.2 ⟨i, h⟩
  rwa [absE_someE] at this
theorem uniq_someE : ∀ {es : List Ent}, Uniq es → Uniq (someE (absE es))
  | [], _ => fun i j k v w h _ => by simp [absE_nil] at h
  | none :: r, h => by rw [absE_none]; exact uniq_someE (uniq_tail h)
  | some (k, v) :: r, h => by
    rw [absE_some, someE, List.map_cons]
    refine uniq_cons (uniq_someE (uniq_tail h)) (fun i w hi => ?_)
    obtain ⟨i', hi'⟩ := mem_absE.1 (getD_someE hi)
    exact uniq_head h i' w hi'
theorem getD_take {es : List Ent} {j i : Nat} {x : Val × Val} (h : (es.take j).getD i none = some x) : i < j ∧ es.getD i none = some x := by
  rw [List.getD_eq_getElem?_getD, List.getElem?_take] at h
  split at h
  · rename_i hlt
    exact ⟨hlt, by rw [List.getD_eq_getElem?_getD]; exact h⟩
  · cases h
theorem row_full {w : World} {base : Nat} {e : TypeId} {g n : Nat} {xs : List Value} (h : w.ownsRow base e 1 (.slice (some ⟨g, 0, none⟩) n n) n xs) : Blk w g e xs := by
  rcases h.2 with ⟨h2, _⟩ | ⟨g', cap', cur, h2, h3, h4, h5, h6, h7, h8⟩
  · cases h2
  · cases h2
    rw [List.take_of_length_le (by simp; omega)] at h8
    unfold Blk
    rw [h4, ← h8]
section
variable {w w' : World} {X : Nat → Prop} {d tb : Nat} {ev : Value} {T : List Nat} {es : List Ent}
theorem DMem.setTab {dr lv : Int} (h : DMem w d ev tb T es dr lv) (p x : Nat) : DMem (w.setCell ⟨tb, p, none⟩ (.int .i64 (x : Nat))) d ev tb (T.set p x) es dr lv := by
  refine ⟨?_, ?_, ?_⟩
  · rw [List.length_set]
    exact h.hd.setOther (h.hd.ne h.tab (by decide)) _
  · exact ownsRow_of h.rows (fun g hg => Below.heap_setCell _ _ _ _ (fun e => blk_ne_row h.tab h.rows hg (by decide) e.symm))
  · rw [List.map_set]
    exact h.tab.setSame p _
set_option maxHeartbeats 4000000 in
set_option maxRecDepth 20000 in
theorem dlay_calls (h : DIn w X d es ev tb T) (hN : es.length ≤ 131072) : Calls Try.prog 110 #[.pointer (some ⟨d, 0, none⟩)] w fun e w' => e = .returned (.tuple #[]) ∧ ∃ X' ev' tb' T', DIn w' X' d (someE (absE es)) ev' tb' T' ∧ (∀ b, X' b → b = d ∨ w.heap.size ≤ b) ∧ Chg (fun b => b = d) w w' ∧ 4 * ((absE es).length + 1) ≤ 3 * T'.length := by
  have HI := Lib.hid h
  obtain ⟨ea, ec, hev⟩ := ownsRow_form h.mem.rows
  subst hev
  have HC : Hid (∀ W, Below w.heap.size w W → ∀ j x, es[j]? = some x → ∃ g, ea = some ⟨g, 0, none⟩ ∧ ∀ c u, c < 7 → x.cells[c]? = some u → W.cell? ⟨g, j * 7 + c, none⟩ = some u) := Lib.hid (fun W hW j x hj => by
    obtain ⟨g, cap, he, _, _, hc⟩ := (HI.out.below hW).mem.cell_ent hj
    cases he
    exact ⟨g, rfl, hc⟩)
  have hecap : es.length ≤ ec ∧ ec ≤ 9223372036854775807 := by
    rcases HI.out.mem.rows.2 with ⟨he, hn⟩ | ⟨g, cap, cur, he, _, _, hc, hm, _⟩
    · simp at he; exact ⟨by omega, by omega⟩
    · cases he; exact ⟨hc, hm⟩
  obtain ⟨hec1, hec2⟩ := hecap
  have c0 := h.mem.hd.cell 0 _ rfl
  have hd0 := h.mem.hd.lt
  obtain ⟨m, hm⟩ : ∃ m, m = es.length := ⟨_, rfl⟩
  have EM := Lib.hid hm
  have HN := Lib.hid hN
  rw [← hm] at c0 hec1
  clear h hm hN
  go_enter Try.func110, Try.ntmps110
  go_wp2_with fail
  go_loopw [2, 15] (fun lv ii wr => ∃ j : Nat, j ≤ m ∧ ii = .int .i64 j ∧ Hid (Below w.heap.size w wr ∧ wr.ownsRow w.heap.size 190 7 lv (someE (absE (es.take j))).length (flatE (someE (absE (es.take j)))))) (fun _ ii _ => m - (intOf ii).toNat)
  case atStart => exact ⟨0, Nat.zero_le _, rfl, Lib.hid ⟨Below.refl _ _, by exact World.ownsRow_nil _ _ _ _⟩⟩
  case round =>
    obtain ⟨j, hj, rfl, hre⟩ := hrel
    by_cases hlt : j < m
    · have hjl : j < es.length := by rw [← EM.out]; exact hlt
      obtain ⟨y, hy⟩ : ∃ y, es[j]? = some y := ⟨_, List.getElem?_eq_getElem hjl⟩
      obtain ⟨g, rfl, hcell⟩ := HC.out wr hre.out.1 j y hy
      have hj0 : (0 : Int) ≤ (j : Int) := by omega
      have hj1 : (j : Int) < (m : Int) := by omega
      have u0 := hcell 0
      have u1 := hcell 1
      have u2 := hcell 2
      have u3 := hcell 3
      have u4 := hcell 4
      have u5 := hcell 5
      have u6 := hcell 6
      have HY := Lib.hid hy
      clear hcell hjl hy
      cases y with
      | none =>
        have u0 := u0 _ (by decide) rfl
        have u1 := u1 _ (by decide) rfl
        have u2 := u2 _ (by decide) rfl
        have u3 := u3 _ (by decide) rfl
        have u4 := u4 _ (by decide) rfl
        have u5 := u5 _ (by decide) rfl
        have u6 := u6 _ (by decide) rfl
        rw [Nat.add_zero] at u0
        go_wp2_with fail
        go_roundw
        case rel => exact ⟨j + 1, by omega, by go_num, Lib.hid ⟨hre.out.1.alloc hre.out.1.size _, by rw [absE_take_none HY.out]; exact hre.out.2.alloc _⟩⟩
        case measure => simp [intOf]; omega
      | some kv =>
        obtain ⟨k, v⟩ := kv
        have u0 := u0 _ (by decide) rfl
        have u1 := u1 _ (by decide) rfl
        have u2 := u2 _ (by decide) rfl
        have u3 := u3 _ (by decide) rfl
        have u4 := u4 _ (by decide) rfl
        have u5 := u5 _ (by decide) rfl
        have u6 := u6 _ (by decide) rfl
        rw [Nat.add_zero] at u0
        have hb1 : Below w.heap.size w (wr.alloc (.cells #[.int .i64 k.k, .int .i64 k.n, .string k.s, .int .i64 v.k, .int .i64 v.n, .string v.s, .bool true] 190)) := hre.out.1.alloc hre.out.1.size _
        have hb2 : Below w.heap.size w ((wr.alloc (.cells #[.int .i64 k.k, .int .i64 k.n, .string k.s, .int .i64 v.k, .int .i64 v.n, .string v.s, .bool true] 190)).alloc (.cells #[.int .i64 k.k, .int .i64 k.n, .string k.s, .int .i64 v.k, .int .i64 v.n, .string v.s, .bool true] 190)) := hb1.alloc hb1.size _
        have hnb := Blk.new (wr.alloc (.cells #[.int .i64 k.k, .int .i64 k.n, .string k.s, .int .i64 v.k, .int .i64 v.n, .string v.s, .bool true] 190)) [.int .i64 k.k, .int .i64 k.n, .string k.s, .int .i64 v.k, .int .i64 v.n, .string v.s, .bool true] 190
        have hln : (someE (absE (es.take j))).length ≤ 1048576 := by
          have h1 := absE_len (es.take j)
          have h2 : (es.take j).length ≤ es.length := by rw [List.length_take]; omega
          have h3 := HN.out
          rw [someE, List.length_map]; omega
        obtain ⟨la, lc, rfl⟩ := ownsRow_form hre.out.2
        have hsz : (wr.alloc (.cells #[.int .i64 k.k, .int .i64 k.n, .string k.s, .int .i64 v.k, .int .i64 v.n, .string v.s, .bool true] 190)).heap.size = wr.heap.size + 1 := by simp
        rw [hsz] at hnb
        obtain ⟨v', w', r, o, gr, at'⟩ := run_append_ent _ w.heap.size _ (some (k, v)) hnb _ _ ((hre.out.2.alloc _).alloc _) hln hb2.size
        have R := Lib.hid r
        have HO : Hid (w'.ownsRow w.heap.size 190 7 v' (someE (absE (es.take (j + 1)))).length (flatE (someE (absE (es.take (j + 1)))))) := Lib.hid (by
          rw [absE_take_some HY.out]
          simpa [someE] using o)
        have HB := Lib.hid (hb2.grown gr hb2.size (fun q hq => (hre.out.2.lt q hq).1))
        clear r o gr at' hb1 hb2 hnb hsz hln
        generalize (someE (absE (es.take j))).length = ln at *
        go_wp2_with (at_builtin; refine RG.wpList_append_run (v := .slice la ln lc) (v2 := .slice (some ⟨wr.heap.size + 1, 0, none⟩) 1 1) rfl _ _ 183 183 rfl rfl rfl R.out ?_; try simp only [Act.put, List.setIfInBounds_toArray, List.set_cons_zero, List.set_cons_succ])
        go_roundw
        case rel => exact ⟨j + 1, by omega, by go_num, Lib.hid ⟨HB.out, HO.out⟩⟩
        case measure => simp [intOf]; omega
    · obtain rfl : j = m := by omega
      have hre := hre.out
      rw [List.take_of_length_le (by rw [← EM.out]; exact Nat.le_refl _)] at hre
      obtain ⟨la, lc, rfl⟩ := ownsRow_form hre.2
      have hdr := HI.out.mem.hd.of (hre.1.block d hd0)
      have x0 := hdr.cell 0 _ rfl
      have x2 := hdr.cell 2 _ rfl
      have f0 := hdr.frozen 0
      have f2 := hdr.frozen 2
      have HR := Lib.hid hre
      have hn := HN.out
      have hln : (someE (absE es)).length ≤ 131072 := by rw [someE, List.length_map]; have := absE_len es; omega
      obtain ⟨n, en⟩ : ∃ n, n = (someE (absE es)).length := ⟨_, rfl⟩
      have EN := Lib.hid en
      rw [← en] at hln
      rw [← en]
      clear hre hdr en
      go_wp2_with fail
      go_loop [5] (fun sv => ∃ z : Nat, 8 ≤ z ∧ (z = 8 ∨ z < 4 * (n + 1)) ∧ sv = .int .i64 z ∧ Hid (∃ q, z = 2 ^ q ∧ 3 ≤ q)) (fun sv => 2 * (n + 1) - (intOf sv).toNat)
      case atStart => exact ⟨8, by omega, .inl rfl, rfl, Lib.hid ⟨3, rfl, by omega⟩⟩
      case round =>
        obtain ⟨z, hz8, hzn, rfl, hzq⟩ := hrel
        have hz0 : (0 : Int) ≤ (z : Int) := by omega
        have hz1 : (z : Int) ≤ 524292 := by omega
        by_cases hlt : z < 2 * (n + 1)
        · have hlt' : (z : Int) < 2 * ((n : Int) + 1) := by omega
          go_wp2_with fail
          go_round
          case rel => exact ⟨z * 2, by omega, by omega, by go_num, Lib.hid (by obtain ⟨q, h1, h2⟩ := hzq.out; exact ⟨q + 1, by rw [h1, Nat.pow_succ], by omega⟩)⟩
          case measure => simp [intOf]; omega
        · have hlt' : ¬ (z : Int) < 2 * ((n : Int) + 1) := by omega
          obtain ⟨i3, hi3, hz3, hz31, hz32⟩ := info_parts info3
          have hdr := HI.out.mem.hd.of (HR.out.1.block d hd0)
          have hdr2 := (hdr.setSame 0 (.slice la n lc)).setSame 2 (.int .i64 0)
          have hC2 : Chg (fun b => b = d) w ((wr.setCell ⟨d, 0, none⟩ (.slice la n lc)).setCell ⟨d, 2, none⟩ (.int .i64 0)) := ((Chg.ofBelow HR.out.1 : Chg (fun b => b = d) w wr).setCell (a := ⟨d, 0, none⟩) (fun _ => rfl) _).setCell (a := ⟨d, 2, none⟩) (fun _ => rfl) _
          have hrow2 := HR.out.2
          rw [← EN.out] at hrow2
          have hge : ∀ g, (Value.slice la n lc).ownBlock = some g → w.heap.size ≤ g ∧ g < wr.heap.size := fun g hg => hrow2.lt g hg
          have hne : ∀ g, (Value.slice la n lc).ownBlock = some g → g ≠ d := fun g hg e => by have := (hge g hg).1; omega
          have hrow3 := ownsRow_of (w' := (wr.setCell ⟨d, 0, none⟩ (.slice la n lc)).setCell ⟨d, 2, none⟩ (.int .i64 0)) hrow2 (fun g hg => (Below.heap_setCell _ _ _ _ (hne g hg)).trans (Below.heap_setCell _ _ _ _ (hne g hg)))
          have HDR := Lib.hid hdr2
          have HC2 := Lib.hid hC2
          have HROW := Lib.hid hrow3
          have HGE := Lib.hid hge
          have hws : wr.heap.size = ((wr.setCell ⟨d, 0, none⟩ (.slice la n lc)).setCell ⟨d, 2, none⟩ (.int .i64 0)).heap.size := by simp
          have HWS := Lib.hid hws
          have hbase : w.heap.size ≤ wr.heap.size := HR.out.1.size
          have HBASE := Lib.hid hbase
          clear x0 x2 f0 f2 hdr hdr2 hC2 hrow2 hge hne hrow3 hws hbase
          go_wp2_with (at_make; refine wpList_make_full _ rfl _ _ 46 rfl w.heap.size 3 i3 (.int .i64 0) 1 Try.underlying46 hi3 hz3 hz31 .i64 .i64 z z z rfl rfl rfl rfl (by rw [hz32]; omega) (by have : maxLen = 9223372036854775807 := rfl; omega) (by rw [← HWS.out]; exact HBASE.out) ?_; intro w3 hrow hgr; have hd3 := HDR.out.of (hgr.block d HDR.out.lt (fun e => by cases e)); have x0 := hd3.cell 0 _ rfl; have x1 := hd3.cell 1 _ rfl; have f1 := hd3.frozen 1; have HD3 := Lib.hid hd3; have HT3 := Lib.hid hrow; have HG3 := Lib.hid hgr; clear hd3 hrow hgr)
          obtain ⟨E, hE⟩ : ∃ E, E = someE (absE es) := ⟨_, rfl⟩
          have HE := Lib.hid hE
          have hdd : d ≠ wr.heap.size := by have := HBASE.out; omega
          have hM : DMem (w3.setCell ⟨d, 1, none⟩ (.slice (some ⟨wr.heap.size, 0, none⟩) z z)) d (.slice la n lc) wr.heap.size (List.replicate z 0) E ((E.length : Int) - (absE E).length) (liveL (absE E)) := by
            refine ⟨?_, ?_, ?_⟩
            · have h1 := HD3.out.setSame 1 (.slice (some ⟨wr.heap.size, 0, none⟩) z z)
              have e1 : (E.length : Int) - (absE E).length = 0 := by rw [hE, absE_someE, someE, List.length_map]; omega
              have e2 : absE E = absE es := by rw [hE, absE_someE]
              rw [e1, e2, List.length_replicate]
              exact h1
            · have h1 := ownsRow_of (w' := w3.setCell ⟨d, 1, none⟩ (.slice (some ⟨wr.heap.size, 0, none⟩) z z)) HROW.out (fun g hg => by
                have h2 := HGE.out g hg
                exact (Below.heap_setCell _ _ _ _ (fun e => by have h3 : g = d := e; omega)).trans (HG3.out.block g (by rw [← HWS.out]; exact h2.2) (fun e => by cases e)))
              rw [hE, ← EN.out]
              exact h1.mono (Nat.zero_le _)
            · have h1 := HT3.out
              rw [← HWS.out, Nat.mul_one, show (Value.int .i64 0).cells = #[.int .i64 0] from rfl, toList_madeCells_one] at h1
              have h2 := (row_full h1).setOther (a := ⟨d, 1, none⟩) (Ne.symm hdd) (.slice (some ⟨wr.heap.size, 0, none⟩) z z)
              rw [List.map_replicate]
              exact h2
          have hTab : TabOK (List.replicate z 0) [] := by
            obtain ⟨q, h1, h2⟩ := hzq.out
            have h3 : q ≤ 20 := by
              rcases Nat.lt_or_ge 20 q with h' | h'
              · have : 2 ^ 21 ≤ 2 ^ q := Nat.pow_le_pow_right (by decide) h'
                omega
              · exact h'
            rw [h1]; exact TabOK.none q h2 h3
          have hC4 : Chg (fun b => b = d) w (w3.setCell ⟨d, 1, none⟩ (.slice (some ⟨wr.heap.size, 0, none⟩) z z)) := (HC2.out.grown HG3.out (fun k e => by cases e)).setCell (a := ⟨d, 1, none⟩) (fun _ => rfl) _
          have hEn : E.length = n := by rw [hE, ← EN.out]
          have hEu : Uniq E := by rw [hE]; exact uniq_someE HI.out.uniq
          have hEc : ∀ i k v, E.getD i none = some (k, v) → Canon k := fun i k v hi => by
            rw [hE] at hi
            obtain ⟨i', hi'⟩ := mem_absE.1 (getD_someE hi)
            exact HI.out.canon i' k v hi'
          have hEs : ∀ i x, E[i]? = some x → ∃ k v, x = some (k, v) := fun i x hi => by
            rw [hE, someE, List.getElem?_map] at hi
            obtain ⟨⟨k, v⟩, _, rfl⟩ := Option.map_eq_some_iff.1 hi
            exact ⟨k, v, rfl⟩
          have hgd : ∀ g, (Value.slice la n lc).ownBlock = some g → w.heap.size ≤ g := fun g hg => (HGE.out g hg).1
          have HM := Lib.hid hM
          have HTB := Lib.hid hTab
          have HC4 := Lib.hid hC4
          have HEN := Lib.hid hEn
          have HEU := Lib.hid hEu
          have HEC := Lib.hid hEc
          have HES := Lib.hid hEs
          have HGD := Lib.hid hgd
          have hlc : n ≤ lc ∧ lc ≤ 9223372036854775807 := by
            rcases HROW.out.2 with ⟨he, hn⟩ | ⟨g, cap, cur, he, _, _, hc, hm, _⟩
            · simp at he; exact ⟨by omega, by omega⟩
            · cases he; exact ⟨hc, hm⟩
          obtain ⟨hlc1, hlc2⟩ := hlc
          clear hM hTab hC4 hEn hEu hEc hEs hgd hdd hE HDR HC2 HROW HD3 HT3 HG3 HWS x0 x1 f1
          obtain ⟨tb', htb⟩ : ∃ tb', tb' = wr.heap.size := ⟨_, rfl⟩
          have HTBB : Hid (w.heap.size ≤ tb') := Lib.hid (by rw [htb]; exact HBASE.out)
          rw [← htb] at HM HC4
          rw [← htb]
          generalize w3.setCell ⟨d, 1, none⟩ (.slice (some ⟨tb', 0, none⟩) z z) = w4 at *
          clear htb
          go_loopw [51] (fun ii wr => ∃ (q : Nat) (T' : List Nat), q ≤ n ∧ ii = .int .i64 q ∧ Hid (DMem wr d (.slice la n lc) tb' T' E ((E.length : Int) - (absE E).length) (liveL (absE E)) ∧ TabOK T' (E.take q) ∧ T'.length = z ∧ Chg (fun b => b = d) w wr)) (fun ii _ => n - (intOf ii).toNat)
          case atStart => exact ⟨0, _, Nat.zero_le _, rfl, Lib.hid ⟨HM.out, HTB.out, by simp, HC4.out⟩⟩
          case round =>
            obtain ⟨q, T', hq, rfl, hre⟩ := hrel
            by_cases hlt : q < n
            · have hql : q < E.length := by rw [HEN.out]; exact hlt
              obtain ⟨y, hy⟩ : ∃ y, E[q]? = some y := ⟨_, List.getElem?_eq_getElem hql⟩
              obtain ⟨k, v, rfl⟩ := HES.out q y hy
              obtain ⟨g, cap, heq, _, _, hcell⟩ := hre.out.1.cell_ent hy
              cases heq
              have u0 := hcell 0 _ (by decide) rfl
              have u1 := hcell 1 _ (by decide) rfl
              have u2 := hcell 2 _ (by decide) rfl
              have u3 := hcell 3 _ (by decide) rfl
              have u4 := hcell 4 _ (by decide) rfl
              have u5 := hcell 5 _ (by decide) rfl
              have u6 := hcell 6 _ (by decide) rfl
              rw [Nat.add_zero] at u0
              have c0 := hre.out.1.hd.cell 0 _ rfl
              have hq0 : (0 : Int) ≤ (q : Int) := by omega
              have hq1 : (q : Int) < (E.length : Int) := by omega
              have hyD := getD_of_get hy
              have hkc := HEC.out q k v hyD
              have hTl : (E.take q).length = q := by rw [List.length_take]; omega
              have hab : ∀ x w', (E.take q).getD x none ≠ some (k, w') := fun x w' hx => by
                obtain ⟨h1, h2⟩ := getD_take hx
                have := HEU.out x q k w' v h2 hyD
                omega
              have hput := hre.out.2.1.put hab v (by rw [hTl, hre.out.2.2.1]; omega)
              rw [hTl] at hput
              have htk : E.take (q + 1) = E.take q ++ [some (k, v)] := by
                obtain ⟨h1, h2⟩ := List.getElem?_eq_some_iff.1 hy
                rw [List.take_succ_eq_append_getElem h1, h2]
              rw [← htk] at hput
              have hcg : findM T' E k = findM T' (E.take q) k := probe_congr (fun x hx h0 => by
                have := hre.out.2.1.le x hx
                rw [hTl] at this
                simp only [List.getD_eq_getElem?_getD]
                rw [List.getElem?_take, if_pos (by omega)]) _ _
              have hF := fun (W : World) (h : DMem W d (.slice (some ⟨g, 0, none⟩) E.length lc) tb' T' E ((E.length : Int) - (absE E).length) (liveL (absE E))) => find_calls h hre.out.2.1.pow hre.out.2.1.big hre.out.2.1.top (fun x hx => by have := hre.out.2.1.le x hx; rw [hTl] at this; omega) hre.out.2.1.zero k hkc.2.2
              obtain ⟨jj, hj1, _⟩ := hre.out.2.1.absent hab
              have hatl : (findM T' (E.take q) k).1 < T'.length := by
                rw [hj1]; exact Nat.mod_lt _ (by have := hre.out.2.1.big; omega)
              rw [hcg] at hF
              generalize (findM T' (E.take q) k).2 = pl at *
              generalize (findM T' (E.take q) k).1 = p at *
              have HF := Lib.hid hF
              have HPUT := Lib.hid hput
              have HR := Lib.hid hre.out
              have HAT := Lib.hid hatl
              have hat0 : (0 : Int) ≤ (p : Int) := by omega
              have hat1 : (p : Int) < (z : Int) := by rw [hre.out.2.2.1] at hatl; omega
              have hb2 : Below wr.heap.size wr (wr.alloc (.cells #[.int .i64 k.k, .int .i64 k.n, .string k.s, .int .i64 v.k, .int .i64 v.n, .string v.s, .bool true] 190)) := (Below.refl _ _).alloc (Nat.le_refl _) _
              have hbx : Blk (wr.alloc (.cells #[.int .i64 k.k, .int .i64 k.n, .string k.s, .int .i64 v.k, .int .i64 v.n, .string v.s, .bool true] 190)) wr.heap.size 190 [.int .i64 k.k, .int .i64 k.n, .string k.s, .int .i64 v.k, .int .i64 v.n, .string v.s, .bool true] := Blk.new wr [.int .i64 k.k, .int .i64 k.n, .string k.s, .int .i64 v.k, .int .i64 v.n, .string v.s, .bool true] 190
              have HB2 := Lib.hid hb2
              clear hcell hy hyD hkc hTl hab hput htk hcg hF hj1 hatl hql hre hb2
              have b0 := hbx.cell 0 _ rfl
              have b1 := hbx.cell 1 _ rfl
              have b2 := hbx.cell 2 _ rfl
              clear hbx
              obtain ⟨k1, k2, k3⟩ := k
              go_wp2_with (go_at_call 111; (with_reducible refine (HF.out _ (by exact HR.out.1.below HB2.out)).mono ?_); rintro e w5 ⟨rfl, hb⟩; have HB5 := Lib.hid (HB2.out.trans (hb.mono HB2.out.size)); have HM5 := Lib.hid (HR.out.1.below HB5.out); clear hb; have c1 := HM5.out.hd.cell 1 _ rfl; rw [HR.out.2.2.1] at c1; have tt := HM5.out.cell_tab HAT.out; have tf := HM5.out.tab.frozen p)
              go_roundw
              case rel => exact ⟨q + 1, T'.set p (q + 1), by omega, by go_num, Lib.hid ⟨by have h1 := HM5.out.setTab p (q + 1); rwa [show (((q + 1 : Nat) : Int)) = (q : Int) + 1 by omega] at h1, HPUT.out, by rw [List.length_set]; exact HR.out.2.2.1, (HR.out.2.2.2.trans (Chg.ofBelow HB5.out) (fun b hb h => h)).setCell (a := ⟨tb', p, none⟩) (fun h => absurd h (by have := HTBB.out; show ¬ tb' < _; omega)) _⟩⟩
              case measure => simp [intOf]; omega
            · obtain rfl : q = n := by omega
              have HR := Lib.hid hre.out
              go_wp2_with fail
              refine bodyPost_end (by simp [results, Try.results110, go_sem]) rfl ⟨rfl, fun b => b = d ∨ b = tb' ∨ (Value.slice la q lc).ownBlock = some b, .slice la q lc, tb', T', ?_, ?_, HR.out.2.2.2, ?_⟩
              · have h1 := HR.out
                rw [← HEN.out, List.take_length] at h1
                rw [← HE.out]
                rw [← HEN.out]
                exact ⟨h1.1, h1.2.1, HEU.out, HEC.out, .inl rfl, .inr (.inl rfl), fun g hg => .inr (.inr hg), fun b hb => by
                  rcases hb with rfl | rfl | hb
                  · exact h1.1.hd.lt
                  · exact h1.1.tab.lt
                  · exact (h1.1.rows.lt b hb).2⟩
              · intro b hb
                rcases hb with rfl | rfl | hb
                · exact .inl rfl
                · exact .inr HTBB.out
                · exact .inr (HGD.out b hb)
              · rw [HR.out.2.2.1]
                have := EN.out
                rw [someE, List.length_map] at this
                omega
end
end Go.Proofs.Ytmjfmfelbmbniaa
