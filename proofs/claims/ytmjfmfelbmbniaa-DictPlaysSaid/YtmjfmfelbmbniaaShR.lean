/- Layer 12: the reference's tree as it lies in memory; the calls that only read it. -/
import Derived.Test.YtmjfmfelbmbniaaStays
namespace Go.Proofs.Ytmjfmfelbmbniaa
open Go.RowKit Go.Maps HK ShM
set_option linter.unusedVariables false
set_option linter.unusedSimpArgs false
attribute [local go_sem ↓] run_max_two run_min_two
structure RefIn (w : World) (X : Nat → Prop) (rb : Nat) (D F : Int) (nm : List ByteArray) (T : List Sh) (nv : Value) (sb sc pb pc : Nat) (kv : Nat → Value) : Prop where
  hd : Blk w rb 48 [.int .i64 D, .int .i64 F, nv, .slice (some ⟨sb, 0, none⟩) T.length sc, .slice (some ⟨pb, 0, none⟩) T.length pc]
  nms : Strs w nv nm
  rows : w.ownsRow 0 22 1 (.slice (some ⟨sb, 0, none⟩) T.length sc) T.length ((List.range T.length).map kv)
  keys : ∀ i, i < T.length → Strs w (kv i) (ksOf T i)
  par : w.ownsRow 0 3 1 (.slice (some ⟨pb, 0, none⟩) T.length pc) T.length (T.map fun s => .int .i64 s.2)
  wf : WF D T
  nm64 : nm.length ≤ 64
  ownR : X rb
  ownS : X sb
  ownP : X pb
  ownN : ∀ g, nv.ownBlock = some g → X g
  ownK : ∀ i, i < T.length → ∀ g, (kv i).ownBlock = some g → X g
  lt : ∀ b, X b → b < w.heap.size
def RefAt (w : World) (X : Nat → Prop) (rb : Nat) (D F : Int) (nm : List ByteArray) (T : List Sh) : Prop := ∃ nv sb sc pb pc kv, RefIn w X rb D F nm T nv sb sc pb pc kv
section
variable {w w' : World} {X : Nat → Prop} {rb : Nat} {D F : Int} {nm : List ByteArray} {T : List Sh} {nv : Value} {sb sc pb pc : Nat} {kv : Nat → Value}
theorem RefIn.of (h : RefIn w X rb D F nm T nv sb sc pb pc kv) (hs : w.heap.size ≤ w'.heap.size) (hb : ∀ b, X b → w'.heap[b]? = w.heap[b]?) : RefIn w' X rb D F nm T nv sb sc pb pc kv :=
  { h with
    hd := h.hd.of (hb _ h.ownR)
    nms := ownsRow_of h.nms (fun g hg => hb _ (h.ownN g hg))
    rows := ownsRow_of h.rows (fun g hg => by cases hg; exact hb _ h.ownS)
    keys := fun i hi => ownsRow_of (h.keys i hi) (fun g hg => hb _ (h.ownK i hi g hg))
    par := ownsRow_of h.par (fun g hg => by cases hg; exact hb _ h.ownP)
    lt := fun b hB => Nat.lt_of_lt_of_le (h.lt b hB) hs }
theorem RefAt.of (h : RefAt w X rb D F nm T) (hs : w.heap.size ≤ w'.heap.size) (hb : ∀ b, X b → w'.heap[b]? = w.heap[b]?) : RefAt w' X rb D F nm T := by
  obtain ⟨nv, sb, sc, pb, pc, kv, h⟩ := h; exact ⟨nv, sb, sc, pb, pc, kv, h.of hs hb⟩
theorem RefAt.below (h : RefAt w X rb D F nm T) (hb : Below w.heap.size w w') : RefAt w' X rb D F nm T := by
  obtain ⟨nv, sb, sc, pb, pc, kv, h⟩ := h; exact ⟨nv, sb, sc, pb, pc, kv, h.of hb.size fun b hB => hb.block b (h.lt b hB)⟩
theorem RefIn.cell_row (h : RefIn w X rb D F nm T nv sb sc pb pc kv) (i : Nat) (hi : i < T.length) : w.cell? ⟨sb, i, none⟩ = some (kv i) := by
  have := h.rows.cells (g := sb) rfl i (kv i) (by simp [hi])
  rwa [addr0] at this
theorem RefIn.cell_par (h : RefIn w X rb D F nm T nv sb sc pb pc kv) (i : Nat) (hi : i < T.length) : w.cell? ⟨pb, i, none⟩ = some (.int .i64 (T[i]).2) := by
  have := h.par.cells (g := pb) rfl i (.int .i64 (T[i]).2) (by simp [hi])
  rwa [addr0] at this
theorem is_calls (h : RefIn w X rb D F nm T nv sb sc pb pc kv) (i : Int) : Calls Try.prog 106 #[.pointer (some ⟨rb, 0, none⟩), .int .i64 i] w fun e w' => e = .returned (.bool (decide (0 ≤ i ∧ i < T.length))) ∧ w = w' := by
  have c := h.hd.cell 3 _ rfl
  have hl : T.length ≤ 4096 := h.wf.le
  clear h
  by_cases h0 : 0 ≤ i
  · by_cases h1 : i < T.length
    · rw [decide_eq_true ⟨h0, h1⟩]
      generalize T.length = n at *
      go_enter Try.func106, Try.ntmps106
      go_wp2
      go_ret
      exact ⟨rfl, rfl⟩
    · have h2 : decide (i < (T.length : Int)) = false := decide_eq_false h1
      rw [decide_eq_false (fun h => h1 h.2)]
      generalize T.length = n at *
      go_enter Try.func106, Try.ntmps106
      go_wp2
      go_ret
      exact ⟨rfl, rfl⟩
  · have h2 : decide (0 ≤ i) = false := decide_eq_false h0
    rw [decide_eq_false (fun h => h0 h.1)]
    generalize T.length = n at *
    go_enter Try.func106, Try.ntmps106
    go_wp2
    go_ret
    exact ⟨rfl, rfl⟩
theorem not_in (i : Int) (n : Nat) : (¬ (0 ≤ i ∧ i < n)) ↔ (i < 0 ∨ (n : Int) ≤ i) := by omega
set_option maxHeartbeats 2000000 in
set_option maxRecDepth 20000 in
theorem rslot_calls (h : RefAt w X rb D F nm T) (i : Int) (s : ByteArray) : Calls Try.prog 37 #[.pointer (some ⟨rb, 0, none⟩), .int .i64 i, .string s] w fun e w' =>
    e = .returned (.tuple #[.int .i64 ((slotM T i s).getD 0 : Nat), .bool (slotM T i s).isSome]) ∧ w = w' := by
  obtain ⟨nv, sb, sc, pb, pc, kv, h⟩ := h
  have HI := Lib.hid (is_calls h i)
  unfold slotM
  by_cases hi : i < 0 ∨ (T.length : Int) ≤ i
  · rw [if_pos hi]
    rw [decide_eq_false ((not_in i T.length).2 hi)] at HI
    clear h hi
    go_enter Try.func37, Try.ntmps37
    go_wp2_with (go_at_call 106; (with_reducible refine HI.out.mono ?_); rintro e w' ⟨rfl, rfl⟩)
    go_ret2
    exact ⟨rfl, rfl⟩
  · rw [if_neg hi]
    obtain ⟨k, rfl⟩ : ∃ k : Nat, i = k := ⟨i.toNat, by omega⟩
    have hk : k < T.length := by omega
    rw [Int.toNat_natCast]
    rw [decide_eq_true (by omega : (0 : Int) ≤ (k : Int) ∧ (k : Int) < T.length)] at HI
    have c3 := h.hd.cell 3 _ rfl
    have cr := h.cell_row k hk
    have hl : T.length ≤ 4096 := h.wf.le
    have hnd := h.wf.nodup k hk
    have hrd := RdS.of_row (h.keys k hk)
    have h64 : (ksOf T k).length ≤ 64 := WF.keys_len h.wf hk
    have HND : Hid ((ksOf T k).Nodup) := Lib.hid hnd
    clear h hi hnd
    generalize ksOf T k = ks at *
    obtain ⟨a, c, ekv, q1, q2, hcell⟩ := hrd
    rw [ekv] at cr
    have HC := Lib.hid hcell
    obtain ⟨n, hn⟩ : ∃ n, n = ks.length := ⟨_, rfl⟩
    have EN := Lib.hid hn
    rw [← hn] at q1 h64 cr
    have q2' : c ≤ 9223372036854775807 := q2
    clear hn q2 hcell ekv kv
    generalize T.length = N at *
    have hk0 : (0 : Int) ≤ (k : Int) := by omega
    have hk1 : (k : Int) < (N : Int) := by omega
    go_enter Try.func37, Try.ntmps37
    go_wp2_with (go_at_call 106; (with_reducible refine HI.out.mono ?_); rintro e w' ⟨rfl, rfl⟩)
    go_loop [21] (fun i => ∃ j : Nat, j ≤ n ∧ i = .int .i64 j ∧ Hid (∀ x ∈ ks.take j, x ≠ s)) (fun i => n - (intOf i).toNat)
    case atStart => exact ⟨0, Nat.zero_le _, rfl, Lib.hid (fun x hx => by simp at hx)⟩
    case round =>
      obtain ⟨j, hj, rfl, hall⟩ := hrel
      by_cases hlt : j < n
      · have hjl : j < ks.length := by rw [← EN.out]; exact hlt
        obtain ⟨b, off, rfl, hx⟩ := HC.out j ks[j] (List.getElem?_eq_getElem _)
        by_cases hs : ks[j] = s
        · have HS : Hid (slotOf ks s = some j) := Lib.hid (slotOf_at HND.out (by rw [List.getElem?_eq_getElem hjl, hs]))
          rw [hs] at hx
          clear hs
          go_wp2
          go_ret2
          exact ⟨by rw [HS.out]; rfl, rfl⟩
        · have hs' := str_ne _ _ hs
          have HTK : Hid (ks.take (j + 1) = ks.take j ++ [ks[j]]) := Lib.hid (List.take_succ_eq_append_getElem hjl)
          have HNE := Lib.hid hs
          generalize ks[j] = z at *
          clear hs
          go_wp2
          go_round
          case rel => exact ⟨j + 1, by omega, by go_num, Lib.hid (fun x hx => by
            rw [HTK.out] at hx
            rcases List.mem_append.1 hx with h | h
            · exact hall.out x h
            · simp at h; subst h; exact HNE.out)⟩
          case measure => simp [intOf]; omega
      · have hno : slotOf ks s = none := slotOf_none.2 (fun hm => hall.out s (by rw [List.take_of_length_le (by rw [← EN.out]; omega)]; exact hm) rfl)
        have HNO := Lib.hid hno
        clear hno
        go_wp2
        go_ret2
        exact ⟨by rw [HNO.out]; rfl, rfl⟩
set_option maxHeartbeats 2000000 in
set_option maxRecDepth 20000 in
theorem rkeys_calls (h : RefAt w X rb D F nm T) (i : Int) : Calls Try.prog 38 #[.pointer (some ⟨rb, 0, none⟩), .int .i64 i] w fun e w' => ∃ v, e = .returned v ∧ NewStrs w w' v (keysM T i) := by
  obtain ⟨nv, sb, sc, pb, pc, kv, h⟩ := h
  have HI := Lib.hid (is_calls h i)
  unfold keysM
  by_cases hi : i < 0 ∨ (T.length : Int) ≤ i
  · rw [if_pos hi]
    rw [decide_eq_false ((not_in i T.length).2 hi)] at HI
    clear h hi
    go_enter Try.func38, Try.ntmps38
    go_wp2_with (go_at_call 106; (with_reducible refine HI.out.mono ?_); rintro e w' ⟨rfl, rfl⟩)
    go_ret
    exact ⟨_, rfl, World.ownsRow_nil _ _ _ _, fun g hg => by (cases hg), Below.refl _ _⟩
  · rw [if_neg hi]
    obtain ⟨k, rfl⟩ : ∃ k : Nat, i = k := ⟨i.toNat, by omega⟩
    have hk : k < T.length := by omega
    rw [Int.toNat_natCast]
    rw [decide_eq_true (by omega : (0 : Int) ≤ (k : Int) ∧ (k : Int) < T.length)] at HI
    have c3 := h.hd.cell 3 _ rfl
    have cr := h.cell_row k hk
    have hl : T.length ≤ 4096 := h.wf.le
    have hrd := RdS.of_row (h.keys k hk)
    have h64 : (ksOf T k).length ≤ 64 := WF.keys_len h.wf hk
    clear h hi
    generalize ksOf T k = ks at *
    generalize T.length = N at *
    generalize kv k = kvk at *
    clear kv
    have hx : Below w.heap.size w (w.alloc (.cells #[] 9)) := (Below.refl _ _).alloc (Nat.le_refl _) _
    obtain ⟨v4, w4, r4, o4, g4, l4⟩ := run_append_strs (w.alloc (.cells #[] 9)) w.heap.size (.slice (some ⟨w.heap.size, 0, none⟩) 0 0) kvk 0 [] ks (World.ownsRow_made w #[] 0 (Nat.le_refl _) (Nat.zero_le _) rfl) (hrd.below hx (Nat.le_refl _)) (by omega) (by omega) (by simp)
    have hx4 : Below w.heap.size w w4 := hx.grown g4 hx.size (fun q hq => by cases hq; exact Nat.le_refl _)
    rw [Nat.zero_add, List.nil_append] at o4
    have c3' := (hx.cell (World.block_lt_of_cell? w _ c3)).trans c3
    have cr' := (hx.cell (World.block_lt_of_cell? w _ cr)).trans cr
    clear c3 cr
    obtain ⟨a, c, rfl, _⟩ := hrd
    have R4 := Lib.hid r4
    have HN : Hid (NewStrs w w4 v4 ks) := Lib.hid ⟨⟨o4.1, o4.2.imp id (fun ⟨g, cap, cur, q1, q2, q3⟩ => ⟨g, cap, cur, q1, Nat.zero_le _, q3⟩)⟩, fun g hg => (o4.lt g hg).1, hx4⟩
    clear hx r4 o4 g4 l4 hx4
    have hk0 : (0 : Int) ≤ (k : Int) := by omega
    have hk1 : (k : Int) < (N : Int) := by omega
    go_enter Try.func38, Try.ntmps38
    go_wp2_with (first | (go_at_call 106; (with_reducible refine HI.out.mono ?_); rintro e w' ⟨rfl, rfl⟩) | (at_builtin; refine RG.wpList_append_run rfl _ _ 22 22 rfl rfl rfl R4.out ?_; simp only [Act.put, List.setIfInBounds_toArray, List.set_cons_zero, List.set_cons_succ]))
    go_ret
    exact ⟨v4, rfl, HN.out⟩
/-- The bit of place k; behind the last place it is none. -/
def bitK (k : Nat) : Nat := 2 ^ k % 2 ^ 64
theorem bitK_succ (k : Nat) : bitK (k + 1) = (2 * bitK k) % 2 ^ 64 := by
  unfold bitK; rw [Nat.pow_succ]; omega
theorem wrap64 (x : Nat) : IntKind.wrap .u64 (x : Int) = ((x % 2 ^ 64 : Nat) : Int) := by
  unfold IntKind.wrap
  simp [IntKind.bits, IntKind.signed]
theorem bitK_of {k : Nat} (h : k < 64) : bitK k = 2 ^ k := by
  unfold bitK; exact Nat.mod_eq_of_lt (Nat.pow_lt_pow_right (by decide) h)
set_option maxHeartbeats 2000000 in
set_option maxRecDepth 20000 in
theorem rmarks_calls (h : RefAt w X rb D F nm T) (i : Int) : Calls Try.prog 39 #[.pointer (some ⟨rb, 0, none⟩), .int .i64 i] w fun e w' => e = .returned (.int .u64 (marksM nm T i)) ∧ w = w' := by
  have HR := Lib.hid h
  obtain ⟨nv, sb, sc, pb, pc, kv, h⟩ := h
  obtain ⟨p, hp⟩ : ∃ p : ByteArray → Bool, ∀ m, p m = (slotM T i m).isSome := ⟨_, fun _ => rfl⟩
  have HP := Lib.hid hp
  have hM : marksM nm T i = (bitsOf nm p : Nat) := by
    unfold marksM
    by_cases hi : i < 0 ∨ (T.length : Int) ≤ i
    · rw [if_pos hi, bitsOf_zero (fun m _ => by rw [hp]; unfold slotM; rw [if_pos hi]; rfl)]; rfl
    · rw [if_neg hi]
      unfold marksOf
      rw [bitsOf_congr (q := p) (fun m _ => by rw [hp]; unfold slotM; rw [if_neg hi, slotOf_isSome])]
  rw [hM]
  have c2 := h.hd.cell 2 _ rfl
  have hrd := RdS.of_row h.nms
  have h64 := h.nm64
  obtain ⟨a, c, rfl, q1, q2, hcell⟩ := hrd
  have HC := Lib.hid hcell
  obtain ⟨n, hn⟩ : ∃ n, n = nm.length := ⟨_, rfl⟩
  have EN := Lib.hid hn
  rw [← hn] at q1 h64 c2
  have q2' : c ≤ 9223372036854775807 := q2
  clear hn q2 hcell hM hp h kv sb sc pb pc
  go_enter Try.func39, Try.ntmps39
  go_wp2_with fail
  go_loop [5, 6, 16] (fun o b i => ∃ j : Nat, j ≤ n ∧ i = .int .i64 j ∧ b = .int .u64 (bitK j : Nat) ∧ o = .int .u64 (bitsOf (nm.take j) p : Nat)) (fun _ _ i => n - (intOf i).toNat)
  case atStart => exact ⟨0, Nat.zero_le _, rfl, rfl, rfl⟩
  case round =>
    obtain ⟨j, hj, rfl, rfl, rfl⟩ := hrel
    by_cases hlt : j < n
    · have hjl : j < nm.length := by rw [← EN.out]; exact hlt
      obtain ⟨b, off, rfl, hx⟩ := HC.out j nm[j] (List.getElem?_eq_getElem _)
      have HS := Lib.hid (rslot_calls HR.out i nm[j])
      have HB : Hid (bitsOf (nm.take (j + 1)) p = bitsOf (nm.take j) p + if p nm[j] then bitK j else 0) := Lib.hid (by
        rw [List.take_succ_eq_append_getElem hjl, bitsOf_snoc, List.length_take, Nat.min_eq_left (by omega), bitK_of (by omega)])
      have hlt1 : bitsOf (nm.take (j + 1)) p < 2 ^ 64 := Nat.lt_of_lt_of_le (bitsOf_lt _ _) (Nat.pow_le_pow_right (by decide) (by rw [List.length_take]; omega))
      have HL1 := Lib.hid hlt1
      have HBS := Lib.hid (bitK_succ j)
      have hbk : bitK j < 2 ^ 64 := Nat.mod_lt _ (by decide)
      rw [← HP.out] at HS
      rw [HB.out] at hlt1
      generalize bitsOf (nm.take j) p = o1 at *
      generalize bitK j = b1 at *
      generalize ((slotM T i nm[j]).getD 0 : Nat) = r at *
      generalize hpz : p nm[j] = pz at *
      generalize nm[j] = z at *
      clear hpz
      cases pz with
      | false =>
        go_wp2_with (go_at_call 37; (with_reducible refine HS.out.mono ?_); rintro e w' ⟨rfl, rfl⟩)
        go_round
        case rel => exact ⟨j + 1, by omega, by go_num, by rw [HBS.out, ← wrap64]; rfl, by rw [HB.out]; simp⟩
        case measure => simp [intOf]; omega
      | true =>
        go_wp2_with (go_at_call 37; (with_reducible refine HS.out.mono ?_); rintro e w' ⟨rfl, rfl⟩)
        go_round
        case rel => exact ⟨j + 1, by omega, by go_num, by rw [HBS.out, ← wrap64]; rfl, by rw [HB.out, if_pos trivial, ← Nat.mod_eq_of_lt (by simpa using hlt1 : o1 + b1 < 2 ^ 64), ← wrap64]; rfl⟩
        case measure => simp [intOf]; omega
    · obtain rfl : j = n := by omega
      have HO : Hid (nm.take j = nm) := Lib.hid (List.take_of_length_le (by rw [← EN.out]; exact Nat.le_refl _))
      go_wp2
      go_ret
      exact ⟨by rw [HO.out]; rfl, rfl⟩
end
end Go.Proofs.Ytmjfmfelbmbniaa
