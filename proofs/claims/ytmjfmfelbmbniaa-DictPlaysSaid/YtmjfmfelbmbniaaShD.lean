/- Layer 12: a new tree. -/
import Derived.Test.YtmjfmfelbmbniaaShC
namespace Go.Proofs.Ytmjfmfelbmbniaa
open Go.RowKit Go.Maps HK ShM
set_option linter.unusedVariables false
set_option linter.unusedSimpArgs false
attribute [local go_sem ↓] run_max_two run_min_two
theorem bound_calls (n : Int) (w : World) : Calls Try.prog 118 #[.int .i64 n] w fun e w' => e = .returned (.int .i64 (min (max n 0) 64)) ∧ w = w' := by
  go_enter Try.func118, Try.ntmps118
  go_wp2
  go_ret
  exact ⟨rfl, rfl⟩
theorem wf_u64n (m : Nat) (h : m < 2 ^ 64) : (Lit.int .u64 (m : Int)).wf = true := by
  simp [Lit.wf, IntKind.min, IntKind.max, IntKind.bits, IntKind.signed]
  omega
theorem take_succ' (l : List ByteArray) (k : Nat) (h : k < l.length) : l.take (k + 1) = l.take k ++ [l[k]] := by
  rw [List.take_succ_eq_append_getElem h]
theorem mark_step (l : List ByteArray) (k : Nat) (h : k < l.length) (h64 : k < 64) :
    bits .or .u64 ((bitsOf (l.take k) fun m => decide (m = l[k]) : Nat) : Int) (IntKind.u64.wrap (2 ^ k)) = ((bitsOf (l.take (k + 1)) fun m => decide (m = l[k]) : Nat) : Int) := by
  have h1 : (2 : Nat) ^ k < 2 ^ 64 := Nat.pow_lt_pow_right (by decide) h64
  have h2 : IntKind.u64.wrap (2 ^ k) = ((2 ^ k : Nat) : Int) := by
    have e : ((2 : Int) ^ k) = ((2 ^ k : Nat) : Int) := by simp
    rw [e]
    generalize 2 ^ k = p at h1
    simp [IntKind.wrap, IntKind.bits, IntKind.signed]
    omega
  have hlen : (l.take k).length = k := by rw [List.length_take]; omega
  have h3 : bitsOf (l.take k) (fun m => decide (m = l[k])) < 2 ^ k := by have := bitsOf_lt (l.take k) (fun m => decide (m = l[k])); rwa [hlen] at this
  rw [h2, bits_or_u64_nat _ _ (by omega) (by omega), take_succ' l k h, bitsOf_snoc, hlen]
  have h4 := Nat.two_pow_add_eq_or_of_lt h3 1
  rw [Nat.mul_one] at h4
  rw [Nat.or_comm, ← h4]
  simp
  omega
theorem markF_step (l : List ByteArray) (k : Nat) (h : k < l.length) (s : ByteArray) :
    markF (l.take (k + 1)) s = if s = l[k] then some ((bitsOf (l.take (k + 1)) fun m => decide (m = l[k]) : Nat) : Int) else markF (l.take k) s := by
  unfold markF
  rw [take_succ' l k h]
  by_cases e : s = l[k]
  · subst e; rw [if_pos rfl, if_pos (List.mem_append.2 (.inr (List.mem_singleton.2 rfl)))]
  · rw [if_neg e]
    have hm : s ∈ l.take k ++ [l[k]] ↔ s ∈ l.take k := by simp only [List.mem_append, List.mem_singleton, e, or_false]
    by_cases hs : s ∈ l.take k
    · rw [if_pos (hm.2 hs), if_pos hs, bitsOf_snoc]
      simp [Ne.symm e]
    · rw [if_neg (fun h => hs (hm.1 h)), if_neg hs]
/-- The first shapes of a tree. -/
def T0 : List Sh := [([], -1)]
theorem tree_first {W : World} {B : Nat → Prop} {deep fan : Int} {names : List ByteArray} (hd0 : 0 ≤ deep) (hd : deep ≤ 64) (hf0 : 0 ≤ fan) (hf : fan ≤ 64) (hnm : names.length ≤ 64) {tb mb vb nb sb cb cap : Nat}
    (h1 : Blk W tb 179 [.int .i64 deep, .int .i64 fan, .map (some mb), .slice (some ⟨vb, 0, none⟩) 1 cap]) (h2 : ∃ n, MI Try.prog 9 38 .u64 W mb n (markF names))
    (h3 : W.ownsRow 0 171 1 (.slice (some ⟨vb, 0, none⟩) 1 cap) 1 [.pointer (some ⟨nb, 0, none⟩)]) (h4 : Blk W nb 175 [.slice none 0 0, .map (some sb), .map (some cb), .int .u64 0])
    (h5 : MI Try.prog 9 3 .i64 W sb 0 (fun _ => none)) (h6 : MI Try.prog 9 3 .i64 W cb 0 (fun _ => none)) (h7 : cb ≠ sb) (h8 : cb ≠ mb)
    (o1 : B tb) (o2 : B mb) (o3 : B vb) (o4 : B nb) (o5 : B sb) (o6 : B cb) (hlt : ∀ b, B b → b < W.heap.size) : TreeAt W B tb deep fan names T0 := by
  have hk : ∀ i, i < T0.length → ksOf T0 i = [] := by intro i hi; simp [T0] at hi; subst hi; rfl
  have hm0 : marksOf names [] = 0 := bitsOf_zero (by simp)
  refine ⟨{ mb := mb, vb := vb, cap := cap, nb := fun _ => nb, kv := fun _ => .slice none 0 0, sb := fun _ => sb, cb := fun _ => cb }, ?_⟩
  exact {
    hd := h1
    mrk := h2
    row := by simpa [T0] using h3
    node := fun i hi => by rw [hk i hi, hm0]; exact h4
    keys := fun i hi => by rw [hk i hi]; exact World.ownsRow_nil _ _ _ _
    slots := fun i hi => by rw [hk i hi]; exact h5.congr fun s _ => rfl
    kids := fun i hi => by
      have e : kidCount T0 i = 0 := kidCount_none (by intro x hx; simp [T0] at hx; subst hx; dsimp only; omega)
      rw [e]
      refine h6.congr fun s _ => ?_
      unfold kidF
      rw [kidFrom_none_of (by intro x hx; simp [T0] at hx; subst hx; dsimp only; omega)]; rfl
    inj := fun i j hi hj _ => by simp [T0] at hi hj; omega
    cs := fun _ _ _ _ => h7
    cm := fun _ _ => h8
    wf := by
      refine ⟨by decide, by decide, hd0, hd, rfl, ?_, ?_, ?_, ?_⟩
      all_goals
        intro i hi
        simp [T0] at hi
        subst hi
      · show ((0 : Nat) : Int) ≤ deep; omega
      · exact List.nodup_nil
      · show (-1 : Int) < 0; omega
      · intro p hp; have hp : (-1 : Int) = p := hp; omega
    fan0 := hf0
    fan64 := hf
    nm := hnm
    ownT := o1
    ownM := o2
    ownV := o3
    ownN := fun _ _ => ⟨o4, o5, o6, fun g hg => by cases hg⟩
    lt := hlt }
set_option maxHeartbeats 2000000 in
set_option maxRecDepth 20000 in
theorem new_calls (deep fan : Int) (v : Value) (l : List ByteArray) (w : World) (h : RdS w v l) (hl : ∀ s ∈ l, s.size ≤ maxLen) :
    Calls Try.prog 61 #[.int .i64 deep, .int .i64 fan, v] w fun e w' => ∃ tb B, e = .returned (.pointer (some ⟨tb, 0, none⟩)) ∧ TreeAt w' B tb (min (max deep 0) 64) (min (max fan 0) 64) (l.take 64) T0 ∧ (∀ b, B b → w.heap.size ≤ b) ∧ Below w.heap.size w w' := by
  obtain ⟨a, c, rfl, hlc, hcm, hcell⟩ := h
  have HC := Lib.hid hcell
  have hmm := @run_makeMap Try.prog
  have hcm' : c ≤ 9223372036854775807 := hcm
  obtain ⟨n, hn⟩ : ∃ n, n = (l.take 64).length := ⟨_, rfl⟩
  have hn1 : n ≤ 64 := by rw [hn, List.length_take]; omega
  have hn2 : n ≤ l.length := by rw [hn, List.length_take]; omega
  have hmin : min (l.length : Int) 64 = (n : Int) := by rw [hn, List.length_take]; omega
  have hmax : max (n : Int) 0 = (n : Int) := by omega
  have HN := Lib.hid hn
  clear hcell hcm hn
  go_enter Try.func61, Try.ntmps61
  go_wp2_with (go_at_call 118; refine (bound_calls _ _).mono ?_; rintro e w' ⟨rfl, rfl⟩)
  go_loopw [23] (fun i wr => ∃ k cnt : Nat, k ≤ n ∧ cnt ≤ k ∧ i = .int .i64 k ∧ Hid (Blk wr (w.heap.size + 1) 179 [.int .i64 (min (max deep 0) 64), .int .i64 (min (max fan 0) 64), .map (some w.heap.size), .slice none 0 0] ∧ MI Try.prog 9 38 .u64 wr w.heap.size cnt (markF (l.take k)) ∧ Below w.heap.size w wr)) (fun i _ => n - (intOf i).toNat)
  case atStart =>
    refine ⟨0, 0, Nat.zero_le _, Nat.le_refl _, rfl, Lib.hid ⟨?_, ?_, ?_⟩⟩
    · have := Blk.new (w.alloc (.map #[] 0)) [.int .i64 (min (max deep 0) 64), .int .i64 (min (max fan 0) 64), .map (some w.heap.size), .slice none 0 0] 179
      simpa using this
    · have h0 : MI Try.prog 9 38 .u64 (w.alloc (.map #[] 0)) w.heap.size 0 (fun _ => none) := MI.made w
      refine (h0.of (Below.heap_alloc _ _ _ (by simp))).congr fun s _ => ?_
      simp [markF]
    · exact ((Below.refl _ _).alloc (Nat.le_refl _) _).alloc (by simp) _
  case round =>
    obtain ⟨k, cnt, hk, hck, rfl, HR⟩ := hrel
    by_cases hlt : k < n
    · have c2 := HR.out.1.cell 2 _ rfl
      have hkl : k < l.length := by omega
      obtain ⟨b, off, rfl, hcl⟩ := HC.out k l[k] (List.getElem?_eq_getElem hkl)
      have hb := World.block_lt_of_cell? w _ hcl
      have c9 : wr.cell? ⟨b, off + k, none⟩ = some (.string l[k]) := (HR.out.2.2.cell hb).trans hcl
      have lk := (HR.out.2.1.of (w' := wr.drew) rfl).look law9 Try.underlying9 Try.underlying176 Try.underlying38 (zero38 wr.drew) l[k] (hl _ (List.getElem_mem _))
      rw [markF_getD] at lk
      have hor := mark_step l k hkl (by omega)
      have hst := markF_step l k hkl
      have hlt64 : bitsOf (l.take (k + 1)) (fun m => decide (m = l[k])) < 2 ^ 64 := Nat.lt_of_lt_of_le (bitsOf_lt _ _) (Nat.pow_le_pow_right (by decide) (by rw [List.length_take]; omega))
      obtain ⟨w2, hrun, hmi, hg⟩ := (HR.out.2.1.of (w' := wr.drew) rfl).store law9 Try.underlying9 Try.underlying176 Try.underlying38 (by unfold maxLen; omega) l[k] (hl _ (List.getElem_mem _)) ((bitsOf (l.take (k + 1)) fun m => decide (m = l[k]) : Nat) : Int) (wf_u64n _ hlt64)
      have HM : Hid (MI Try.prog 9 38 .u64 w2 w.heap.size (if (markF (l.take k) l[k]).isSome then cnt else cnt + 1) (markF (l.take (k + 1)))) := Lib.hid (hmi.congr fun s _ => (hst s).symm)
      have HG := Lib.hid hg
      clear hmi hg hst hlt64
      generalize ((bitsOf (l.take (k + 1)) fun m => decide (m = l[k]) : Nat) : Int) = m2 at *
      generalize ((bitsOf (l.take k) fun m => decide (m = l[k]) : Nat) : Int) = m1 at *
      generalize l[k] = s at *
      clear hb hcl
      go_wp2
      go_still_tail 9, (by kernel_rfl)
      go_wp2
      go_roundw
      case rel => 
        refine ⟨k + 1, (if (markF (l.take k) s).isSome then cnt else cnt + 1), by omega, by split <;> omega, by go_num, Lib.hid ⟨?_, HM.out, ?_⟩⟩
        · exact HR.out.1.of (HG.out.block _ HR.out.1.lt (fun e => by simp at e))
        · exact (HR.out.2.2.drew).grown HG.out HR.out.2.2.size (fun q hq => by cases hq; exact Nat.le_refl _)
      case measure => simp [intOf]; omega
    · obtain rfl : k = n := by omega
      have z3 : ∀ o1 o2 o3 o4, ((((wr.alloc o1).alloc o2).alloc o3).alloc o4).cell? ⟨w.heap.size + 1, 3, none⟩ = some (.slice none 0 0) := fun o1 o2 o3 o4 => ((((HR.out.1.alloc o1).alloc o2).alloc o3).alloc o4).cell 3 _ rfl
      have f3 : ∀ o1 o2 o3 o4, ((((wr.alloc o1).alloc o2).alloc o3).alloc o4).frozen? ⟨w.heap.size + 1, 3, none⟩ = false := fun o1 o2 o3 o4 => ((((HR.out.1.alloc o1).alloc o2).alloc o3).alloc o4).frozen 3
      have q : ∀ o1 o2 o3 o4 o5 (s : ByteArray), ((((wr.alloc o1).alloc o2).alloc o3).alloc o4).heap[w.heap.size]? = wr.heap[w.heap.size]? := fun o1 o2 o3 o4 o5 s => by
        have h2 := HR.out.2.1.lt
        rw [Below.heap_alloc _ _ _ (by simp <;> omega), Below.heap_alloc _ _ _ (by simp <;> omega), Below.heap_alloc _ _ _ (by simp <;> omega), Below.heap_alloc _ _ _ h2]
      have HQ := Lib.hid q
      clear q
      go_wp2
      go_ret
      have hb2 := HR.out.2.1.lt
      have hb1 := HR.out.1.lt
      have hB := HR.out.2.2
      have hbl := (((HR.out.1.alloc (.map #[] 0)).alloc (.map #[] 0)).alloc (.cells #[.slice none 0 0, .map (some wr.heap.size), .map (some (wr.heap.size + 1)), .int .u64 0] 175)).alloc (.cells #[.pointer (some ⟨wr.heap.size + 1 + 1, 0, none⟩)] 171)
      have hset := hbl.setSame 3 (.slice (some ⟨wr.heap.size + 1 + 1 + 1, 0, none⟩) 1 1)
      have m1 : MI Try.prog 9 3 .i64 (wr.alloc (.map #[] 0)) wr.heap.size 0 (fun _ => none) := MI.made wr
      have m2 : MI Try.prog 9 3 .i64 ((wr.alloc (.map #[] 0)).alloc (.map #[] 0)) (wr.heap.size + 1) 0 (fun _ => none) := by have := MI.made (P := Try.prog) (k := 9) (e := 3) (q := .i64) (wr.alloc (.map #[] 0)); simpa using this
      have n1 : Blk (((wr.alloc (.map #[] 0)).alloc (.map #[] 0)).alloc (.cells #[.slice none 0 0, .map (some wr.heap.size), .map (some (wr.heap.size + 1)), .int .u64 0] 175)) (wr.heap.size + 1 + 1) 175 [.slice none 0 0, .map (some wr.heap.size), .map (some (wr.heap.size + 1)), .int .u64 0] := by
        have := Blk.new ((wr.alloc (.map #[] 0)).alloc (.map #[] 0)) [.slice none 0 0, .map (some wr.heap.size), .map (some (wr.heap.size + 1)), .int .u64 0] 175; simpa using this
      have n2 : Blk ((((wr.alloc (.map #[] 0)).alloc (.map #[] 0)).alloc (.cells #[.slice none 0 0, .map (some wr.heap.size), .map (some (wr.heap.size + 1)), .int .u64 0] 175)).alloc (.cells #[.pointer (some ⟨wr.heap.size + 1 + 1, 0, none⟩)] 171)) (wr.heap.size + 1 + 1 + 1) 171 [.pointer (some ⟨wr.heap.size + 1 + 1, 0, none⟩)] := by
        have := Blk.new (((wr.alloc (.map #[] 0)).alloc (.map #[] 0)).alloc (.cells #[.slice none 0 0, .map (some wr.heap.size), .map (some (wr.heap.size + 1)), .int .u64 0] 175)) [.pointer (some ⟨wr.heap.size + 1 + 1, 0, none⟩)] 171; simpa using this
      have hsz4 : ((((wr.alloc (.map #[] 0)).alloc (.map #[] 0)).alloc (.cells #[.slice none 0 0, .map (some wr.heap.size), .map (some (wr.heap.size + 1)), .int .u64 0] 175)).alloc (.cells #[.pointer (some ⟨wr.heap.size + 1 + 1, 0, none⟩)] 171)).heap.size = wr.heap.size + 4 := by simp
      have e3 : ∀ b, b < wr.heap.size → ((((wr.alloc (.map #[] 0)).alloc (.map #[] 0)).alloc (.cells #[.slice none 0 0, .map (some wr.heap.size), .map (some (wr.heap.size + 1)), .int .u64 0] 175)).alloc (.cells #[.pointer (some ⟨wr.heap.size + 1 + 1, 0, none⟩)] 171)).heap[b]? = wr.heap[b]? := fun b hb => by
        rw [Below.heap_alloc _ _ _ (by simp <;> omega), Below.heap_alloc _ _ _ (by simp <;> omega), Below.heap_alloc _ _ _ (by simp <;> omega), Below.heap_alloc _ _ _ hb]
      have m1' := m1.of (w' := ((((wr.alloc (.map #[] 0)).alloc (.map #[] 0)).alloc (.cells #[.slice none 0 0, .map (some wr.heap.size), .map (some (wr.heap.size + 1)), .int .u64 0] 175)).alloc (.cells #[.pointer (some ⟨wr.heap.size + 1 + 1, 0, none⟩)] 171))) (by rw [Below.heap_alloc _ _ _ (by simp <;> omega), Below.heap_alloc _ _ _ (by simp <;> omega), Below.heap_alloc _ _ _ (by simp)])
      have m2' := m2.of (w' := ((((wr.alloc (.map #[] 0)).alloc (.map #[] 0)).alloc (.cells #[.slice none 0 0, .map (some wr.heap.size), .map (some (wr.heap.size + 1)), .int .u64 0] 175)).alloc (.cells #[.pointer (some ⟨wr.heap.size + 1 + 1, 0, none⟩)] 171))) (by rw [Below.heap_alloc _ _ _ (by simp <;> omega), Below.heap_alloc _ _ _ (by simp)])
      have n1' := n1.alloc (.cells #[.pointer (some ⟨wr.heap.size + 1 + 1, 0, none⟩)] 171)
      have hB4 : Below w.heap.size w ((((wr.alloc (.map #[] 0)).alloc (.map #[] 0)).alloc (.cells #[.slice none 0 0, .map (some wr.heap.size), .map (some (wr.heap.size + 1)), .int .u64 0] 175)).alloc (.cells #[.pointer (some ⟨wr.heap.size + 1 + 1, 0, none⟩)] 171)) := (((hB.alloc hB.size _).alloc (by have := hB.size; simp; omega) _).alloc (by have := hB.size; simp; omega) _).alloc (by have := hB.size; simp; omega) _
      generalize ((((wr.alloc (.map #[] 0)).alloc (.map #[] 0)).alloc (.cells #[.slice none 0 0, .map (some wr.heap.size), .map (some (wr.heap.size + 1)), .int .u64 0] 175)).alloc (.cells #[.pointer (some ⟨wr.heap.size + 1 + 1, 0, none⟩)] 171)) = W4 at hset n1' n2 m1' m2' hsz4 e3 hB4 ⊢
      have htk : l.take 64 = l.take k := by rw [List.take_eq_take_iff]; omega
      refine ⟨w.heap.size + 1, fun b => w.heap.size ≤ b ∧ b < (W4.setCell ⟨w.heap.size + 1, 3, none⟩ (.slice (some ⟨wr.heap.size + 1 + 1 + 1, 0, none⟩) 1 1)).heap.size, rfl, tree_first (by omega) (by omega) (by omega) (by omega) (by rw [List.length_take]; omega) hset
        ⟨cnt, by rw [htk]; exact HR.out.2.1.of ((Below.heap_setCell _ _ _ _ (by simp)).trans (e3 _ hb2))⟩ ?_ (n1'.setOther (by show wr.heap.size + 1 + 1 ≠ w.heap.size + 1; omega) _) (m1'.of (Below.heap_setCell _ _ _ _ (by show wr.heap.size ≠ w.heap.size + 1; omega))) (m2'.of (Below.heap_setCell _ _ _ _ (by show wr.heap.size + 1 ≠ w.heap.size + 1; omega)))
        (by omega) (by omega) ?_ ?_ ?_ ?_ ?_ ?_ (fun b hb => hb.2), fun b hb => hb.1, ?_⟩
      · refine ⟨by simp, .inr ⟨_, 1, _, rfl, Nat.zero_le _, n2.setOther (by show wr.heap.size + 1 + 1 + 1 ≠ w.heap.size + 1; omega) _, Nat.le_refl _, by decide, by simp, by simp⟩⟩
      all_goals first | (simp; omega) | skip
      exact hB4.setCell (by show w.heap.size ≤ w.heap.size + 1; omega) _
end Go.Proofs.Ytmjfmfelbmbniaa
