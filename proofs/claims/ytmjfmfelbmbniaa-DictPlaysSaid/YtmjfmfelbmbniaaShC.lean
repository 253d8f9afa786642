/- Layer 12: a key added to a shape. -/
import Derived.Test.YtmjfmfelbmbniaaShB
import Derived.StillTailTactics
import Derived.Deep.RegionHeld3
import Derived.Deep.DeepCutAuto
import Derived.Deep.CutBlock
import Derived.Deep.DrawnRows
import Derived.LoopTactic
import Derived.Test.YtmjfmfelbmbniaaRG
namespace Go.Proofs.Ytmjfmfelbmbniaa
open Go.RowKit Go.Maps HK ShM
set_option linter.unusedVariables false
set_option linter.unusedSimpArgs false
theorem run_len_row {P : Program} {w0 w : World} {e : TypeId} {size n : Nat} {v : Value} {xs : List Value} {t ty base : Nat} (ht : P.underlying t = some (.slice e)) (h : w0.ownsRow base e size v n xs) : (Builtin.len_ #[t] ty #[v]).run P w = .ok (.int .i64 n) w := by
  rcases h.2 with ⟨rfl, rfl⟩ | ⟨g, cap, cur, rfl, _⟩ <;> simp [Builtin.len_, run_underlying ht, Builtin.lenOf, goInt]
section
variable {w : World} {B : Nat → Prop} {tb : Nat} {deep fan : Int} {names : List ByteArray} {T : List Sh}
/-- What the call adds, in memory. -/
structure Grown1 (w w' : World) (B : Nat → Prop) (tb : Nat) (deep fan : Int) (names : List ByteArray) (T' : List Sh) : Prop where
  ex : ∃ B', TreeAt w' B' tb deep fan names T' ∧ Chg B w w' ∧ ∀ b, B' b → B b ∨ w.heap.size ≤ b
theorem Grown1.same (h : TreeAt w B tb deep fan names T) : Grown1 w w B tb deep fan names T := ⟨B, h, Chg.refl _ _, fun b hb => .inl hb⟩
theorem Grown1.draws {T' : List Sh} (h : Grown1 w w B tb deep fan names T') (n : Nat) : Grown1 w (w.drewN n) B tb deep fan names T' := by
  obtain ⟨B', h1, h2, h3⟩ := h.ex
  exact ⟨B', h1.of (w' := w.drewN n) (Nat.le_refl _) (fun _ _ => rfl), h2.drewN n, h3⟩
/-- A new shape's node, as it lies behind the statement that makes it. -/
def NewNode (w w' : World) (ks : List ByteArray) (z : ByteArray) (m : Nat) (y : Value) : Prop := ∃ yb v sb cb, y = .pointer (some ⟨yb, 0, none⟩) ∧ Blk w' yb 175 [v, .map (some sb), .map (some cb), .int .u64 m] ∧
  Strs w' v (ks ++ [z]) ∧ MI Try.prog 9 3 .i64 w' sb ks.length (slotF ks) ∧ MI Try.prog 9 3 .i64 w' cb 0 (fun _ => none) ∧ cb ≠ sb ∧ w.heap.size ≤ yb ∧ w.heap.size ≤ sb ∧ w.heap.size ≤ cb ∧ (∀ g, v.ownBlock = some g → w.heap.size ≤ g) ∧ Below w.heap.size w w'
theorem Strs.below {w w' : World} {v : Value} {ks : List ByteArray} (h : Strs w v ks) (hb : Below w.heap.size w w') : Strs w' v ks := ownsRow_of h fun g hg => hb.block g (h.lt g hg).2
theorem Strs.from {w w' : World} {N : Nat} {v : Value} {ks : List ByteArray} (h : Strs w v ks) (hN : ∀ g, v.ownBlock = some g → g < N) (hb : Below N w w') : Strs w' v ks := ownsRow_of h fun g hg => hb.block g (hN g hg)
/-- What each of the last operations of the statement leaves that makes a node. -/
def PhiN (w : World) (ks : List ByteArray) (z : ByteArray) (m : Nat) (done : Nat → Bool) : Nat → Nat → Nat → Value → World → Prop
  | 4, lo, hi, v, W => done 7 = true ∨ Strs W v ks ∧ ∀ g, v.ownBlock = some g → lo ≤ g ∧ g < hi
  | 6, lo, hi, v, W => ∃ b, v = .slice (some ⟨b, 0, none⟩) 1 1 ∧ Blk W b 9 [.string z] ∧ lo ≤ b ∧ b < hi
  | 7, _, _, v, W => Strs W v (ks ++ [z]) ∧ ∀ g, v.ownBlock = some g → w.heap.size ≤ g
  | 12, lo, hi, v, W => ∃ b, v = .map (some b) ∧ MI Try.prog 9 3 .i64 W b ks.length (slotF ks) ∧ lo ≤ b ∧ b < hi
  | 13, lo, hi, v, W => ∃ b, v = .map (some b) ∧ MI Try.prog 9 3 .i64 W b 0 (fun _ => none) ∧ lo ≤ b ∧ b < hi
  | 25, _, _, v, W => ∃ va sb cb, v = .agg #[va, .map (some sb), .map (some cb), .int .u64 m] ∧ Strs W va (ks ++ [z]) ∧ MI Try.prog 9 3 .i64 W sb ks.length (slotF ks) ∧ MI Try.prog 9 3 .i64 W cb 0 (fun _ => none) ∧
      cb ≠ sb ∧ w.heap.size ≤ sb ∧ w.heap.size ≤ cb ∧ ∀ g, va.ownBlock = some g → w.heap.size ≤ g
  | _, _, _, v, W => NewNode w W ks z m v
theorem PhiN_4 {w W : World} {ks : List ByteArray} {z : ByteArray} {m lo hi : Nat} {v : Value} {done : Nat → Bool} : PhiN w ks z m done 4 lo hi v W = (done 7 = true ∨ Strs W v ks ∧ ∀ g, v.ownBlock = some g → lo ≤ g ∧ g < hi) := rfl
theorem PhiN_6 {w W : World} {ks : List ByteArray} {z : ByteArray} {m lo hi : Nat} {v : Value} {done : Nat → Bool} : PhiN w ks z m done 6 lo hi v W = (∃ b, v = .slice (some ⟨b, 0, none⟩) 1 1 ∧ Blk W b 9 [.string z] ∧ lo ≤ b ∧ b < hi) := rfl
theorem PhiN_7 {w W : World} {ks : List ByteArray} {z : ByteArray} {m lo hi : Nat} {v : Value} {done : Nat → Bool} : PhiN w ks z m done 7 lo hi v W = (Strs W v (ks ++ [z]) ∧ ∀ g, v.ownBlock = some g → w.heap.size ≤ g) := rfl
theorem PhiN_12 {w W : World} {ks : List ByteArray} {z : ByteArray} {m lo hi : Nat} {v : Value} {done : Nat → Bool} : PhiN w ks z m done 12 lo hi v W = (∃ b, v = .map (some b) ∧ MI Try.prog 9 3 .i64 W b ks.length (slotF ks) ∧ lo ≤ b ∧ b < hi) := rfl
theorem PhiN_13 {w W : World} {ks : List ByteArray} {z : ByteArray} {m lo hi : Nat} {v : Value} {done : Nat → Bool} : PhiN w ks z m done 13 lo hi v W = (∃ b, v = .map (some b) ∧ MI Try.prog 9 3 .i64 W b 0 (fun _ => none) ∧ lo ≤ b ∧ b < hi) := rfl
theorem PhiN_25 {w W : World} {ks : List ByteArray} {z : ByteArray} {m lo hi : Nat} {v : Value} {done : Nat → Bool} : PhiN w ks z m done 25 lo hi v W = (∃ va sb cb, v = .agg #[va, .map (some sb), .map (some cb), .int .u64 m] ∧ Strs W va (ks ++ [z]) ∧ MI Try.prog 9 3 .i64 W sb ks.length (slotF ks) ∧ MI Try.prog 9 3 .i64 W cb 0 (fun _ => none) ∧
      cb ≠ sb ∧ w.heap.size ≤ sb ∧ w.heap.size ≤ cb ∧ ∀ g, va.ownBlock = some g → w.heap.size ≤ g) := rfl
theorem PhiN_26 {w W : World} {ks : List ByteArray} {z : ByteArray} {m lo hi : Nat} {v : Value} {done : Nat → Bool} : PhiN w ks z m done 26 lo hi v W = NewNode w W ks z m v := rfl
theorem PhiN_27 {w W : World} {ks : List ByteArray} {z : ByteArray} {m lo hi : Nat} {v : Value} {done : Nat → Bool} : PhiN w ks z m done 27 lo hi v W = NewNode w W ks z m v := rfl
theorem NewNode.below {w W W' : World} {ks : List ByteArray} {z : ByteArray} {m : Nat} {v : Value} (h : NewNode w W ks z m v) (hb : Below W.heap.size W W') : NewNode w W' ks z m v := by
  obtain ⟨yb, va, sb, cb, rfl, h1, h2, h3, h4, h5, h6, h7, h8, h9, h10⟩ := h
  exact ⟨yb, va, sb, cb, rfl, h1.of (hb.block _ h1.lt), h2.below hb, h3.of (hb.block _ h3.lt), h4.of (hb.block _ h4.lt), h5, h6, h7, h8, h9, h10.trans (hb.mono h10.size)⟩
theorem PhiN.mono {w W W' : World} {ks : List ByteArray} {z : ByteArray} {m j lo hi k : Nat} {v : Value} {done : Nat → Bool} (h : PhiN w ks z m done j lo hi v W) (hb : Below W.heap.size W W') : PhiN w ks z m (RG.upd done k) j lo hi v W' := by
  unfold PhiN at h ⊢
  split at h
  · rcases h with h | h
    · exact .inl (by unfold RG.upd; split <;> simp [h])
    · exact .inr ⟨h.1.below hb, h.2⟩
  · obtain ⟨b, e, h, h1⟩ := h; exact ⟨b, e, h.of (hb.block _ h.lt), h1⟩
  · exact ⟨h.1.below hb, h.2⟩
  · obtain ⟨b, e, h, h1⟩ := h; exact ⟨b, e, h.of (hb.block _ h.lt), h1⟩
  · obtain ⟨b, e, h, h1⟩ := h; exact ⟨b, e, h.of (hb.block _ h.lt), h1⟩
  · obtain ⟨va, sb, cb, e, h1, h2, h3, h4⟩ := h
    exact ⟨va, sb, cb, e, h1.below hb, h2.of (hb.block _ h2.lt), h3.of (hb.block _ h3.lt), h4⟩
  · exact NewNode.below h hb
theorem clone_any {w : World} {v : Value} {ks : List ByteArray} (h : Strs w v ks) (hb : ks.length ≤ 1000000) : Calls Try.prog 104 #[v] w fun e w' => ∃ v', e = .returned v' ∧ NewStrs w w' v' ks := by
  rcases h.2 with ⟨rfl, hn⟩ | ⟨g, cap, cur, rfl, hr⟩
  · obtain rfl : ks = [] := List.eq_nil_of_length_eq_zero hn
    refine (clone_nil w).mono ?_
    rintro e w' ⟨rfl, rfl⟩
    exact ⟨_, rfl, World.ownsRow_nil _ _ _ _, fun g hg => by (cases hg), Below.refl _ _⟩
  · refine (clone_strs w g ks.length cap ks h rfl hb).mono ?_
    rintro e w' ⟨v, rfl, h1, h2, h3, h4⟩
    exact ⟨v, rfl, h1, h2, h4⟩
theorem clone_mi {w : World} {b n : Nat} {f : ByteArray → Option Int} (h : MI Try.prog 9 3 .i64 w b n f) : Calls Try.prog 105 #[.map (some b)] w fun e w' => ∃ b', e = .returned (.map (some b')) ∧ MI Try.prog 9 3 .i64 w' b' n f ∧ w.heap.size ≤ b' ∧ Below w.heap.size w w' := by
  obtain ⟨es, c, he⟩ := h.obj
  refine (clone_map b es c w he).mono ?_
  rintro e w' ⟨rfl, rfl⟩
  exact ⟨_, rfl, h.copied (by rw [he]; exact (MapKept.heap_alloc w _).1), Nat.le_refl _, (Below.refl _ _).alloc (Nat.le_refl _) _⟩
set_option maxHeartbeats 2000000 in
set_option maxRecDepth 20000 in
theorem add_calls (h : TreeAt w B tb deep fan names T) (i : Int) (z : ByteArray) (hz : z.size ≤ maxLen) :
    Calls Try.prog 28 #[.pointer (some ⟨tb, 0, none⟩), .int .i64 i, .string z] w fun e w' =>
      e = .returned (.tuple #[.int .i64 (addM deep fan T i z).r, .bool (addM deep fan T i z).ok]) ∧ Grown1 w w' B tb deep fan names (addM deep fan T i z).T := by
  have hT := h
  have HT := Lib.hid hT
  obtain ⟨L, h⟩ := h
  by_cases hi : i < 0 ∨ (T.length : Int) ≤ i
  · have e : addM deep fan T i z = ⟨0, false, T⟩ := by unfold addM; rw [if_pos hi]
    rw [e]
    have H := Lib.hid (at_miss h i hi)
    have G := Lib.hid (Grown1.same HT.out)
    clear h hi e hT
    go_enter Try.func28, Try.ntmps28
    go_wp2_with (go_at_call 103; refine H.out.mono ?_; rintro e w' ⟨rfl, rfl⟩)
    go_ret2
    exact ⟨rfl, G.out⟩
  · obtain ⟨k, rfl⟩ : ∃ k : Nat, i = k := ⟨i.toNat, by omega⟩
    have hk : k < T.length := by omega
    have H := Lib.hid (at_hit h k hk)
    have c0 := (h.node k hk).cell 0 _ rfl
    have c1 := (h.node k hk).cell 1 _ rfl
    have c2 := (h.node k hk).cell 2 _ rfl
    have c3 := (h.node k hk).cell 3 _ rfl
    have lk := (h.slots k hk).look_ok law9 Try.underlying9 Try.underlying173 Try.underlying3 (zero3 w) z hz
    rw [mapD, mapS, slotOf_isSome] at lk
    by_cases hm : z ∈ ksOf T k
    · have e : addM deep fan T k z = ⟨0, false, T⟩ := by unfold addM; rw [if_neg hi]; dsimp only; rw [if_pos (show z ∈ (T.getD (k : Int).toNat ([], 0)).1 by rw [Int.toNat_natCast]; exact hm)]
      rw [e]
      have G := Lib.hid (Grown1.same HT.out)
      rw [decide_eq_true hm] at lk
      clear hi e hm h
      generalize (slotOf (ksOf T k) z).getD 0 = m at *
      go_enter Try.func28, Try.ntmps28
      go_wp2_with (go_at_call 103; refine H.out.mono ?_; rintro e w' ⟨rfl, rfl⟩)
      go_ret2
      exact ⟨rfl, G.out⟩
    · rw [decide_eq_false hm] at lk
      have lk2 := (h.kids k hk).look_ok law9 Try.underlying9 Try.underlying173 Try.underlying3 (zero3 w) z hz
      rw [mapD, mapS] at lk2
      rcases hkid : kidFrom T 0 k z with _ | j
      · rw [hkid] at lk2
        have e : addM deep fan T k z = if deep ≤ (ksOf T k).length ∨ fan ≤ kidCount T k ∨ 4096 ≤ T.length then ⟨0, false, T⟩ else ⟨T.length, true, T ++ [(ksOf T k ++ [z], (k : Int))]⟩ := by
          unfold addM; rw [if_neg hi]; dsimp only; rw [if_neg (show ¬ z ∈ (T.getD (k : Int).toNat ([], 0)).1 by rw [Int.toNat_natCast]; exact hm), hkid]; dsimp only; rw [Int.toNat_natCast]
        have d0 := h.hd.cell 0 _ rfl
        have d1 := h.hd.cell 1 _ rfl
        have d2 := h.hd.cell 2 _ rfl
        have d3 := h.hd.cell 3 _ rfl
        have ln1 := fun (W : World) ty => run_len_row (P := Try.prog) (w := W) (ty := ty) Try.underlying22 (h.keys k hk)
        have ln2 : ∀ (n : Nat) ty, (Builtin.len_ #[173] ty #[.map (some (L.cb k))]).run Try.prog (w.drewN n) = .ok (.int .i64 (kidCount T k)) (w.drewN n) := fun n ty => ((h.kids k hk).of (w' := w.drewN n) rfl).len Try.underlying173 ty
        by_cases hA : deep ≤ (ksOf T k).length
        · rw [e, if_pos (.inl hA)]
          have G := Lib.hid (Grown1.same HT.out)
          clear hi e hm h hkid
          generalize (slotOf (ksOf T k) z).getD 0 = m at *
          generalize (ksOf T k).length = l1 at *
          generalize kidCount T k = l2 at *
          generalize T.length = l3 at *
          go_enter Try.func28, Try.ntmps28
          go_wp2_with (go_at_call 103; refine H.out.mono ?_; rintro e w' ⟨rfl, rfl⟩)
          go_quiet (fail)
          go_wp2
          go_ret2
          exact ⟨rfl, Grown1.draws G.out _⟩
        · have hA' : decide (deep ≤ (((ksOf T k).length : Nat) : Int)) = false := decide_eq_false hA
          by_cases hB : fan ≤ kidCount T k
          · rw [e, if_pos (.inr (.inl hB))]
            have G := Lib.hid (Grown1.same HT.out)
            clear hi e hm h hkid hA
            generalize (slotOf (ksOf T k) z).getD 0 = m at *
            generalize (ksOf T k).length = l1 at *
            generalize kidCount T k = l2 at *
            generalize T.length = l3 at *
            go_enter Try.func28, Try.ntmps28
            go_wp2_with (go_at_call 103; refine H.out.mono ?_; rintro e w' ⟨rfl, rfl⟩)
            go_quiet (fail)
            go_wp2
            go_ret2
            exact ⟨rfl, Grown1.draws G.out _⟩
          · have hB' : decide (fan ≤ ((kidCount T k : Nat) : Int)) = false := decide_eq_false hB
            by_cases hC : 4096 ≤ T.length
            · rw [e, if_pos (.inr (.inr hC))]
              have G := Lib.hid (Grown1.same HT.out)
              have hC' : (4096 : Int) ≤ ((T.length : Nat) : Int) := by omega
              clear hi e hm h hkid hA hB hC
              generalize (slotOf (ksOf T k) z).getD 0 = m at *
              generalize (ksOf T k).length = l1 at *
              generalize kidCount T k = l2 at *
              generalize T.length = l3 at *
              go_enter Try.func28, Try.ntmps28
              go_wp2_with (go_at_call 103; refine H.out.mono ?_; rintro e w' ⟨rfl, rfl⟩)
              go_quiet (fail)
              go_wp2
              go_ret2
              exact ⟨rfl, Grown1.draws G.out _⟩
            · have hC' : decide ((4096 : Int) ≤ ((T.length : Nat) : Int)) = false := decide_eq_false (by omega)
              rw [e, if_neg (by rintro (h | h | h) <;> contradiction)]
              have h0 := Lib.hid h
              have KS := Lib.hid (h.keys k hk)
              have SL := Lib.hid (h.slots k hk)
              have K64 : Hid ((ksOf T k).length ≤ 1000000) := Lib.hid (by have h1 := h.wf.keys k hk; have h2 := h.wf.deep64; show (T.getD k ([], 0)).1.length ≤ _; omega)
              have HK0 := Lib.hid hk
              have EADD : Hid (addM deep fan T k z = ⟨T.length, true, T ++ [(ksOf T k ++ [z], (k : Int))]⟩) := Lib.hid (by rw [e, if_neg (by rintro (h | h | h) <;> contradiction)])
              have HM := Lib.hid hm
              have HKID := Lib.hid hkid
              clear hi e hm h hkid hA hB hC
              generalize (slotOf (ksOf T k) z).getD 0 = m at *
              generalize hl1 : (ksOf T k).length = l1 at ln1 hA'
              generalize hl2 : kidCount T k = l2 at ln2 hB'
              generalize hl3 : T.length = l3 at d3 hC'
              have E1 := Lib.hid hl1; have E2 := Lib.hid hl2; have E3 := Lib.hid hl3
              clear hl1 hl2 hl3
              go_enter Try.func28, Try.ntmps28
              go_wp2_with (go_at_call 103; refine H.out.mono ?_; rintro e w' ⟨rfl, rfl⟩)
              go_quiet (fail)
              go_upto_region 12 with (fail)
              go_cut [13] (fun y wc => NewNode w wc (ksOf T k) z (marksOf names (ksOf T k ++ [z])) y)
              case first =>
                refine wp_region_held (S := fun W => Below w.heap.size w W) (by kernel_rfl) ?_
                have hS0 : Below w.heap.size w ({ w.drewN nq with drawn := (w.drewN nq).drawn + 1 } : World) := ⟨rfl, rfl, rfl, Nat.le_refl _, fun _ _ => rfl⟩
                generalize ({ w.drewN nq with drawn := (w.drewN nq).drawn + 1 } : World) = w1 at hS0 ⊢
                have q0 : ∀ W, Below w.heap.size w W → W.cell? ⟨L.nb k, 0, none⟩ = some (L.kv k) := fun W hW => (hW.cell (World.block_lt_of_cell? w _ c0)).trans c0
                have q1 : ∀ W, Below w.heap.size w W → W.cell? ⟨L.nb k, 1, none⟩ = some (.map (some (L.sb k))) := fun W hW => (hW.cell (World.block_lt_of_cell? w _ c1)).trans c1
                have q3 : ∀ W, Below w.heap.size w W → W.cell? ⟨L.nb k, 3, none⟩ = some (.int .u64 (marksOf names (ksOf T k) : Nat)) := fun W hW => (hW.cell (World.block_lt_of_cell? w _ c3)).trans c3
                have q4 : ∀ W, Below w.heap.size w W → W.cell? ⟨tb, 2, none⟩ = some (.map (some L.mb)) := fun W hW => (hW.cell (World.block_lt_of_cell? w _ d2)).trans d2
                have q5 : ∀ W, Below w.heap.size w W → (Instr.lookup 176 (.map (some L.mb)) (.string z) false).run Try.prog W = .ok (.int .u64 (bitsOf names fun m => decide (m = z) : Nat)) W := fun W hW => by
                  obtain ⟨n, hm⟩ := h0.out.mrk
                  have := (hm.of (w' := W) (hW.block _ hm.lt)).look law9 Try.underlying9 Try.underlying176 Try.underlying38 (zero38 W) z hz
                  rwa [markF_getD] at this
                refine wpAnyH_take (i := 0) (oi := ⟨some 71, _, _, _, _, _⟩) (v := ?_) rfl (by kernel_rfl) (by kernel_rfl) (by kernel_rfl) (fun _ _ _ h => h) (Or.inl ⟨by rfl, ?hy0⟩) hS0 ?rest0
                case hy0 => (intro W hW; (try dsimp only at hW); go_simp; try with_reducible rfl)
                simp only [Act.put, List.setIfInBounds_toArray, List.set_cons_zero, List.set_cons_succ]
                refine wpAnyH_take (i := 1) (oi := ⟨some 72, _, _, _, _, _⟩) (v := ?_) rfl (by kernel_rfl) (by kernel_rfl) (by kernel_rfl) (fun _ _ _ h => h) (Or.inl ⟨by rfl, ?hy1⟩) hS0 ?rest1
                case hy1 => (intro W hW; (try dsimp only at hW); go_simp; try with_reducible rfl)
                simp only [Act.put, List.setIfInBounds_toArray, List.set_cons_zero, List.set_cons_succ]
                refine wpAnyH_take (i := 2) (oi := ⟨some 73, _, _, _, _, _⟩) (v := ?_) rfl (by kernel_rfl) (by kernel_rfl) (by kernel_rfl) (fun _ _ _ h => h) (Or.inl ⟨by rfl, ?hy2⟩) hS0 ?rest2
                case hy2 => (intro W hW; (try dsimp only at hW); go_simp; try with_reducible rfl)
                simp only [Act.put, List.setIfInBounds_toArray, List.set_cons_zero, List.set_cons_succ]
                refine wpAnyH_take (i := 3) (oi := ⟨some 74, _, _, _, _, _⟩) (v := ?_) rfl (by kernel_rfl) (by kernel_rfl) (by kernel_rfl) (fun _ _ _ h => h) (Or.inl ⟨by rfl, ?hy3⟩) hS0 ?rest3
                case hy3 => (intro W hW; (try dsimp only at hW); go_simp; try with_reducible rfl)
                simp only [Act.put, List.setIfInBounds_toArray, List.set_cons_zero, List.set_cons_succ]
                refine wpAnyH_take (i := 5) (oi := ⟨some 76, _, _, _, _, _⟩) (v := ?_) rfl (by kernel_rfl) (by kernel_rfl) (by kernel_rfl) (fun _ _ _ h => h) (Or.inl ⟨by rfl, ?hy5⟩) hS0 ?rest5
                case hy5 => (intro W hW; (try dsimp only at hW); go_simp; try with_reducible rfl)
                simp only [Act.put, List.setIfInBounds_toArray, List.set_cons_zero, List.set_cons_succ]
                refine wpAnyH_take (i := 8) (oi := ⟨some 79, _, _, _, _, _⟩) (v := ?_) rfl (by kernel_rfl) (by kernel_rfl) (by kernel_rfl) (fun _ _ _ h => h) (Or.inl ⟨by rfl, ?hy8⟩) hS0 ?rest8
                case hy8 => (intro W hW; (try dsimp only at hW); go_simp; try with_reducible rfl)
                simp only [Act.put, List.setIfInBounds_toArray, List.set_cons_zero, List.set_cons_succ]
                refine wpAnyH_take (i := 9) (oi := ⟨some 80, _, _, _, _, _⟩) (v := ?_) rfl (by kernel_rfl) (by kernel_rfl) (by kernel_rfl) (fun _ _ _ h => h) (Or.inl ⟨by rfl, ?hy9⟩) hS0 ?rest9
                case hy9 => (intro W hW; (try dsimp only at hW); go_simp; try with_reducible rfl)
                simp only [Act.put, List.setIfInBounds_toArray, List.set_cons_zero, List.set_cons_succ]
                refine wpAnyH_take (i := 10) (oi := ⟨some 81, _, _, _, _, _⟩) (v := ?_) rfl (by kernel_rfl) (by kernel_rfl) (by kernel_rfl) (fun _ _ _ h => h) (Or.inl ⟨by rfl, ?hy10⟩) hS0 ?rest10
                case hy10 => (intro W hW; (try dsimp only at hW); go_simp; try with_reducible rfl)
                simp only [Act.put, List.setIfInBounds_toArray, List.set_cons_zero, List.set_cons_succ]
                refine wpAnyH_take (i := 11) (oi := ⟨some 82, _, _, _, _, _⟩) (v := ?_) rfl (by kernel_rfl) (by kernel_rfl) (by kernel_rfl) (fun _ _ _ h => h) (Or.inl ⟨by rfl, ?hy11⟩) hS0 ?rest11
                case hy11 => (intro W hW; (try dsimp only at hW); go_simp; try with_reducible rfl)
                simp only [Act.put, List.setIfInBounds_toArray, List.set_cons_zero, List.set_cons_succ]
                refine wpAnyH_take (i := 14) (oi := ⟨some 85, _, _, _, _, _⟩) (v := ?_) rfl (by kernel_rfl) (by kernel_rfl) (by kernel_rfl) (fun _ _ _ h => h) (Or.inl ⟨by rfl, ?hy14⟩) hS0 ?rest14
                case hy14 => (intro W hW; (try dsimp only at hW); go_simp; try with_reducible rfl)
                simp only [Act.put, List.setIfInBounds_toArray, List.set_cons_zero, List.set_cons_succ]
                refine wpAnyH_take (i := 15) (oi := ⟨some 86, _, _, _, _, _⟩) (v := ?_) rfl (by kernel_rfl) (by kernel_rfl) (by kernel_rfl) (fun _ _ _ h => h) (Or.inl ⟨by rfl, ?hy15⟩) hS0 ?rest15
                case hy15 => (intro W hW; (try dsimp only at hW); go_simp; try with_reducible rfl)
                simp only [Act.put, List.setIfInBounds_toArray, List.set_cons_zero, List.set_cons_succ]
                refine wpAnyH_take (i := 16) (oi := ⟨some 87, _, _, _, _, _⟩) (v := ?_) rfl (by kernel_rfl) (by kernel_rfl) (by kernel_rfl) (fun _ _ _ h => h) (Or.inl ⟨by rfl, ?hy16⟩) hS0 ?rest16
                case hy16 => (intro W hW; (try dsimp only at hW); go_simp; try with_reducible rfl)
                simp only [Act.put, List.setIfInBounds_toArray, List.set_cons_zero, List.set_cons_succ]
                refine wpAnyH_take (i := 17) (oi := ⟨some 88, _, _, _, _, _⟩) (v := ?_) rfl (by kernel_rfl) (by kernel_rfl) (by kernel_rfl) (fun _ _ _ h => h) (Or.inl ⟨by rfl, ?hy17⟩) hS0 ?rest17
                case hy17 => (intro W hW; (try dsimp only at hW); go_simp; try with_reducible rfl)
                simp only [Act.put, List.setIfInBounds_toArray, List.set_cons_zero, List.set_cons_succ]
                refine wpAnyH_take (i := 18) (oi := ⟨some 89, _, _, _, _, _⟩) (v := ?_) rfl (by kernel_rfl) (by kernel_rfl) (by kernel_rfl) (fun _ _ _ h => h) (Or.inl ⟨by rfl, ?hy18⟩) hS0 ?rest18
                case hy18 => (intro W hW; (try dsimp only at hW); go_simp; try with_reducible rfl)
                simp only [Act.put, List.setIfInBounds_toArray, List.set_cons_zero, List.set_cons_succ]
                refine wpAnyH_take (i := 19) (oi := ⟨some 90, _, _, _, _, _⟩) (v := ?_) rfl (by kernel_rfl) (by kernel_rfl) (by kernel_rfl) (fun _ _ _ h => h) (Or.inl ⟨by rfl, ?hy19⟩) hS0 ?rest19
                case hy19 => (intro W hW; (try dsimp only at hW); go_simp; try with_reducible rfl)
                simp only [Act.put, List.setIfInBounds_toArray, List.set_cons_zero, List.set_cons_succ]
                refine wpAnyH_take (i := 20) (oi := ⟨some 91, _, _, _, _, _⟩) (v := ?_) rfl (by kernel_rfl) (by kernel_rfl) (by kernel_rfl) (fun _ _ _ h => h) (Or.inl ⟨by rfl, ?hy20⟩) hS0 ?rest20
                case hy20 => (intro W hW; (try dsimp only at hW); go_simp; try with_reducible rfl)
                simp only [Act.put, List.setIfInBounds_toArray, List.set_cons_zero, List.set_cons_succ]
                refine wpAnyH_take (i := 21) (oi := ⟨some 92, _, _, _, _, _⟩) (v := ?_) rfl (by kernel_rfl) (by kernel_rfl) (by kernel_rfl) (fun _ _ _ h => h) (Or.inl ⟨by rfl, ?hy21⟩) hS0 ?rest21
                case hy21 => (intro W hW; (try dsimp only at hW); go_simp; try with_reducible rfl)
                simp only [Act.put, List.setIfInBounds_toArray, List.set_cons_zero, List.set_cons_succ]
                refine wpAnyH_take (i := 22) (oi := ⟨some 93, _, _, _, _, _⟩) (v := ?_) rfl (by kernel_rfl) (by kernel_rfl) (by kernel_rfl) (fun _ _ _ h => h) (Or.inl ⟨by rfl, ?hy22⟩) hS0 ?rest22
                case hy22 => (intro W hW; (try dsimp only at hW); go_simp; try with_reducible rfl)
                simp only [Act.put, List.setIfInBounds_toArray, List.set_cons_zero, List.set_cons_succ]
                refine wpAnyH_take (i := 23) (oi := ⟨some 94, _, _, _, _, _⟩) (v := ?_) rfl (by kernel_rfl) (by kernel_rfl) (by kernel_rfl) (fun _ _ _ h => h) (Or.inl ⟨by rfl, ?hy23⟩) hS0 ?rest23
                case hy23 => (intro W hW; (try dsimp only at hW); go_simp; try with_reducible rfl)
                simp only [Act.put, List.setIfInBounds_toArray, List.set_cons_zero, List.set_cons_succ]
                refine wpAnyH_take (i := 24) (oi := ⟨some 95, _, _, _, _, _⟩) (v := ?_) rfl (by kernel_rfl) (by kernel_rfl) (by kernel_rfl) (fun _ _ _ h => h) (Or.inl ⟨by rfl, ?hy24⟩) hS0 ?rest24
                case hy24 => (intro W hW; (try dsimp only at hW); go_simp; try with_reducible rfl)
                simp only [Act.put, List.setIfInBounds_toArray, List.set_cons_zero, List.set_cons_succ]
                obtain ⟨i0, hi0, hz0, hz1, hz2⟩ := info_parts info9
                refine RG.grow [4, 6, 7, 12, 13, 25, 26, 27] [75, 77, 78, 83, 84, 96, 97, 13] (fun j => if j = 27 then 13 else j + 71) (fun | 7 => [4, 6] | 12 => [7] | 25 => [7, 12, 13] | 26 => [25] | 27 => [26] | _ => []) _ _ (by kernel_rfl) (by kernel_rfl)
                  (PhiN w (ksOf T k) z (marksOf names (ksOf T k ++ [z]))) w1 hS0 ?step ?fin _ (by decide)
                case fin =>
                  intro vals W lo hi hW hI _
                  have hN := (hI 27 (by decide)).2.2.2
                  rw [PhiN_27] at hN
                  simp only [if_true] at hN
                  clear hI
                  simp only [RG.fill, List.foldl_cons, List.foldl_nil, Act.put, List.setIfInBounds_toArray, List.set_cons_zero, List.set_cons_succ]
                  go_wp2
                  go_meet
                  case rel => exact hN
                case step =>
                  intro j hjs done lo hi a1 W ha hW hsz hj hd hI
                  have hk0 : w.heap.size ≤ w1.heap.size := hS0.size
                  have hks := KS.out
                  have hsl := SL.out
                  have h64 := K64.out
                  simp only [List.mem_cons, List.not_mem_nil, or_false] at hjs
                  rcases hjs with rfl | rfl | rfl | rfl | rfl | rfl | rfl | rfl
                  · refine RG.wpOp_plain rfl rfl fun K hK => ?_
                    have e74 : a1.tmps.getD 74 undef = L.kv k := ha.out 74 (by decide)
                    go_simp
                    refine (clone_any (Strs.from hks (fun g hg => (hks.lt g hg).2) hW) h64).mono ?_
                    rintro e w' ⟨v, rfl, h1, h2, h3⟩
                    exact hK _ _ ⟨hW.trans (h3.mono hW.size), h3.size, v, rfl, fun i hi0 hdi => (hI.at_ i hi0 hdi).2.2.2.mono h3, by rw [PhiN_4]; exact .inr ⟨h1, fun g hg => ⟨h2 g hg, (h1.lt g hg).2⟩⟩⟩
                  · refine RG.wpOp_plain rfl rfl fun K hK => ?_
                    have e74 : a1.tmps[76]?.getD undef = .string z := (RG.getD_form _ _).symm.trans (ha.out 76 (by decide))
                    go_simp
                    have hb : Below W.heap.size W (W.alloc (.cells #[.string z] 9)) := (Below.refl _ _).alloc (Nat.le_refl _) _
                    exact hK _ _ ⟨hW.trans (hb.mono hW.size), hb.size, _, rfl, fun i hi0 hdi => (hI.at_ i hi0 hdi).2.2.2.mono hb, by rw [PhiN_6]; exact ⟨_, rfl, Blk.new W [.string z] 9, Nat.le_refl _, by simp⟩⟩
                  · refine RG.wpOp_plain rfl rfl fun K hK => ?_
                    obtain ⟨_, l4, h4, hp4⟩ := hI.at_ 4 (by decide) (hd 4 (by decide))
                    obtain ⟨_, l6, h6, hp6⟩ := hI.at_ 6 (by decide) (hd 6 (by decide))
                    have hap := hI.apart 4 (by decide) 6 (by decide) (hd 4 (by decide)) (hd 6 (by decide)) (by decide)
                    rw [PhiN_4] at hp4; rw [PhiN_6] at hp6
                    obtain ⟨hs4, hb4⟩ := hp4.resolve_left (by rw [hj]; decide)
                    obtain ⟨b6, e77, hb6, hlo6, hhi6⟩ := hp6
                    rw [if_neg (by decide)] at hs4 hb4 e77
                    generalize e75 : a1.tmps.getD (4 + 71) undef = va at hs4 hb4
                    have hbase : W.ownsRow w.heap.size 9 1 va (ksOf T k).length ((ksOf T k).map .string) := by
                      refine ⟨hs4.1, ?_⟩
                      rcases hs4.2 with h | ⟨g, c, cur, q1, _, q3⟩
                      · exact .inl h
                      · exact .inr ⟨g, c, cur, q1, by have := (hb4 g (by rw [q1]; rfl)).1; omega, q3⟩
                    have hm : maxLen = 9223372036854775807 := rfl
                    refine wp_append_own W _ _ 22 rfl w.heap.size 9 i0 (.string ByteArray.empty) 1 16 Try.underlying22 hi0 hz0 hz1 hz2 rfl (by decide) va _ _ e75 hbase ⟨b6, 0, none⟩ 1 1 [.string z] e77 rfl (fun j u hu => ?_) (by simp [Value.oneCell']) (by omega) (by omega) hW.size ?_
                    · rw [addr0]; exact hb6.cell j u hu
                    · intro v' w' hown hg _
                      have hown' : Strs w' v' (ksOf T k ++ [z]) := by
                        refine ⟨by simp, ?_⟩
                        rcases hown.2 with ⟨q1, q2⟩ | ⟨g, c, cur, q1, _, q3⟩
                        · omega
                        · exact .inr ⟨g, c, cur, by simpa using q1, Nat.zero_le _, by simpa using q3⟩
                      have hkeep : ∀ b, b < W.heap.size → va.ownBlock ≠ some b → w'.heap[b]? = W.heap[b]? := fun b hb hne => hg.block b hb (fun e => hne e.symm)
                      refine hK _ _ ⟨hW.trans ⟨hg.os, hg.tape, hg.output, hg.size, fun b hb => hkeep b (Nat.lt_of_lt_of_le hb hW.size) (fun e => by have := (hbase.lt b e).1; omega)⟩, hg.size, v', rfl, ?_, by rw [PhiN_7]; exact ⟨hown', fun g e => (hown.lt g e).1⟩⟩
                      intro i his hdi
                      simp only [List.mem_cons, List.not_mem_nil, or_false] at his
                      rcases his with rfl | rfl | rfl | rfl | rfl | rfl | rfl | rfl
                      · rw [PhiN_4]; exact .inl rfl
                      · rw [PhiN_6, if_neg (by decide)]; exact ⟨b6, e77, hb6.of (hkeep _ hb6.lt (fun e => by have := hb4 _ e; omega)), hlo6, hhi6⟩
                      · rw [hj] at hdi; cases hdi
                      · have := hI.dep 12 (by decide) hdi 7 (by decide); rw [hj] at this; cases this
                      · have hp := (hI.at_ 13 (by decide) hdi).2.2.2
                        rw [PhiN_13] at hp ⊢
                        obtain ⟨b, e, h1, h2, h3⟩ := hp
                        refine ⟨b, e, h1.of (hkeep _ h1.lt (fun e => ?_)), h2, h3⟩
                        have ha2 := hI.apart 4 (by decide) 13 (by decide) (hd 4 (by decide)) hdi (by decide)
                        have := hb4 _ e
                        omega
                      · have := hI.dep 25 (by decide) hdi 7 (by decide); rw [hj] at this; cases this
                      · have := hI.dep 25 (by decide) (hI.dep 26 (by decide) hdi 25 (by decide)) 7 (by decide); rw [hj] at this; cases this
                      · have := hI.dep 25 (by decide) (hI.dep 26 (by decide) (hI.dep 27 (by decide) hdi 26 (by decide)) 25 (by decide)) 7 (by decide); rw [hj] at this; cases this
                  · refine RG.wpOp_plain rfl rfl fun K hK => ?_
                    have e74 : a1.tmps.getD 82 undef = .map (some (L.sb k)) := ha.out 82 (by decide)
                    go_simp
                    refine (clone_mi (hsl.of (hW.block _ hsl.lt))).mono ?_
                    rintro e w' ⟨v, rfl, h1, h2, h3⟩
                    exact hK _ _ ⟨hW.trans (h3.mono hW.size), h3.size, _, rfl, fun i hi0 hdi => (hI.at_ i hi0 hdi).2.2.2.mono h3, by rw [PhiN_12]; exact ⟨_, rfl, h1, h2, h1.lt⟩⟩
                  · refine RG.wpOp_plain rfl rfl fun K hK => ?_
                    have hmm := @run_makeMap Try.prog
                    go_simp
                    have hb : Below W.heap.size W (W.alloc (.map #[] 0)) := (Below.refl _ _).alloc (Nat.le_refl _) _
                    exact hK _ _ ⟨hW.trans (hb.mono hW.size), hb.size, _, rfl, fun i hi0 hdi => (hI.at_ i hi0 hdi).2.2.2.mono hb, by rw [PhiN_13]; exact ⟨_, rfl, MI.made W, Nat.le_refl _, by simp⟩⟩
                  · refine RG.wpOp_plain rfl rfl fun K hK => ?_
                    obtain ⟨_, _, _, hp7⟩ := hI.at_ 7 (by decide) (hd 7 (by decide))
                    obtain ⟨n12, l12, h12, hp12⟩ := hI.at_ 12 (by decide) (hd 12 (by decide))
                    obtain ⟨n13, l13, h13, hp13⟩ := hI.at_ 13 (by decide) (hd 13 (by decide))
                    have hap := hI.apart 12 (by decide) 13 (by decide) (hd 12 (by decide)) (hd 13 (by decide)) (by decide)
                    rw [PhiN_7] at hp7; rw [PhiN_12] at hp12; rw [PhiN_13] at hp13
                    obtain ⟨hs7, hg7⟩ := hp7
                    obtain ⟨sb, e83, hs12, hb1, hb2⟩ := hp12
                    obtain ⟨cb, e84, hs13, hc1, hc2⟩ := hp13
                    rw [if_neg (by decide)] at hs7 hg7 e83 e84
                    generalize e78 : a1.tmps.getD (7 + 71) undef = va at hs7 hg7
                    have f78 : a1.tmps[78]?.getD undef = va := (RG.getD_form _ _).symm.trans e78
                    have f83 : a1.tmps[83]?.getD undef = .map (some sb) := (RG.getD_form _ _).symm.trans e83
                    have f84 : a1.tmps[84]?.getD undef = .map (some cb) := (RG.getD_form _ _).symm.trans e84
                    have f95 : a1.tmps[95]?.getD undef = .int .u64 (marksOf names (ksOf T k ++ [z]) : Nat) := by
                      refine (RG.getD_form _ _).symm.trans ((ha.out 95 (by decide)).trans ?_)
                      have h1 := marksOf_lt names (ksOf T k) h0.out.nm
                      have h2 : bitsOf names (fun m => decide (m = z)) < 2 ^ 64 := Nat.lt_of_lt_of_le (bitsOf_lt _ _) (Nat.pow_le_pow_right (by omega) h0.out.nm)
                      have h3 := bits_or_u64_nat _ _ h1 h2
                      rw [marksOf_snoc] at h3
                      simpa using h3
                    obtain ⟨g7, c7, rfl⟩ : ∃ g c, va = .slice (some ⟨g, 0, none⟩) ((ksOf T k).length + 1) c := by
                      rcases hs7.2 with ⟨_, q⟩ | ⟨g, c, cur, q, _⟩
                      · simp at q
                      · exact ⟨g, c, by simpa using q⟩
                    go_simp
                    have hb : Below W.heap.size W W := Below.refl _ _
                    exact hK _ _ ⟨hW, Nat.le_refl _, _, rfl, fun i hi0 hdi => (hI.at_ i hi0 hdi).2.2.2.mono hb, by rw [PhiN_25]; exact ⟨_, sb, cb, rfl, hs7, hs12, hs13, by omega, by omega, by omega, hg7⟩⟩
                  · refine RG.wpOp_plain rfl rfl fun K hK => ?_
                    obtain ⟨_, _, _, hp25⟩ := hI.at_ 25 (by decide) (hd 25 (by decide))
                    rw [PhiN_25, if_neg (by decide)] at hp25
                    obtain ⟨va, sb, cb, e96, h1, h2, h3, h4, h5, h6, h7⟩ := hp25
                    have f96 : a1.tmps[96]?.getD undef = .agg #[va, .map (some sb), .map (some cb), .int .u64 (marksOf names (ksOf T k ++ [z]) : Nat)] := (RG.getD_form _ _).symm.trans e96
                    go_simp
                    have hb : Below W.heap.size W (W.alloc (.cells #[va, .map (some sb), .map (some cb), .int .u64 (marksOf names (ksOf T k ++ [z]) : Nat)] 175)) := (Below.refl _ _).alloc (Nat.le_refl _) _
                    exact hK _ _ ⟨hW.trans (hb.mono hW.size), hb.size, _, rfl, fun i hi0 hdi => (hI.at_ i hi0 hdi).2.2.2.mono hb, by
                      rw [PhiN_26]
                      exact ⟨_, va, sb, cb, rfl, Blk.new W [va, .map (some sb), .map (some cb), .int .u64 (marksOf names (ksOf T k ++ [z]) : Nat)] 175, h1.below hb, h2.of (hb.block _ h2.lt), h3.of (hb.block _ h3.lt), h4, hW.size, h5, h6, h7, hW.trans (hb.mono hW.size)⟩⟩
                  · refine RG.wpOp_plain rfl rfl fun K hK => ?_
                    obtain ⟨_, _, _, hp26⟩ := hI.at_ 26 (by decide) (hd 26 (by decide))
                    rw [PhiN_26, if_neg (by decide)] at hp26
                    generalize e97 : a1.tmps.getD (26 + 71) undef = y at hp26
                    have f97 : a1.tmps[97]?.getD undef = y := (RG.getD_form _ _).symm.trans e97
                    go_simp
                    exact hK _ _ ⟨hW, Nat.le_refl _, y, rfl, fun i hi0 hdi => (hI.at_ i hi0 hdi).2.2.2.mono (Below.refl _ _), by rw [PhiN_27]; exact hp26⟩
              case rest =>
                obtain ⟨yb, va, sb, cb, hy, hyb, hva, hsb, hcb, hne, f1, f2, f3, f4, hB⟩ := hcut
                subst hy
                have hk' := HK0.out
                obtain ⟨w2, hrun2, hs2, hg2⟩ := (hsb.of (w' := wc.drew) rfl).store law9 Try.underlying9 Try.underlying173 Try.underlying3 (by have := K64.out; unfold maxLen; omega) z hz ((ksOf T k).length : Nat) (WalkArith.wf_i64 (by have := K64.out; omega))
                rw [if_neg (by unfold slotF; rw [mapS, slotOf_none.2 HM.out]; decide), E1.out] at hs2
                rw [E1.out] at hrun2
                have ltk := (h0.out.kids k hk').lt
                have hk2 := (h0.out.kids k hk').of (w' := w2) ((hg2.block _ (Nat.lt_of_lt_of_le ltk hB.size) (fun e => by cases e; omega)).trans (hB.block _ ltk))
                obtain ⟨w3, hrun3, hs3, hg3⟩ := hk2.store law9 Try.underlying9 Try.underlying173 Try.underlying3 (by have h1 := kidCount_le T k; have h2 := h0.out.wf.le; unfold maxLen; omega) z hz (T.length : Nat) (WalkArith.wf_i64 (by have := h0.out.wf.le; omega))
                rw [if_neg (by unfold kidF; rw [mapS, HKID.out]; decide)] at hs3
                rw [E3.out] at hrun3
                have lt0 := World.block_lt_of_cell? w _ c0
                have lt2 := World.block_lt_of_cell? w _ c2
                have ltt := World.block_lt_of_cell? w _ d3
                have x0 : wc.cell? ⟨L.nb k, 0, none⟩ = some (L.kv k) := (hB.cell lt0).trans c0
                have x1 : wc.cell? ⟨yb, 1, none⟩ = some (.map (some sb)) := hyb.cell 1 _ rfl
                have x2 : w2.cell? ⟨tb, 3, none⟩ = some (.slice (some ⟨L.vb, 0, none⟩) l3 L.cap) := (World.cell?_of_block (w := wc.drew) (hg2.block _ (Nat.lt_of_lt_of_le ltt hB.size) (fun e => by cases e; omega))).trans ((hB.cell ltt).trans d3)
                have x3 : w2.cell? ⟨L.nb k, 2, none⟩ = some (.map (some (L.cb k))) := (World.cell?_of_block (w := wc.drew) (hg2.block _ (Nat.lt_of_lt_of_le lt2 hB.size) (fun e => by cases e; omega))).trans ((hB.cell lt2).trans c2)
                have z2 : wc.heap.size ≤ w2.heap.size := hg2.size
                have x4 : w3.cell? ⟨tb, 3, none⟩ = some (.slice (some ⟨L.vb, 0, none⟩) l3 L.cap) := (World.cell?_of_block (w := w2) (hg3.block _ (Nat.lt_of_lt_of_le ltt (Nat.le_trans hB.size z2)) (fun e => by cases e; exact (h0.out.kids k hk').blk_ne h0.out.hd rfl))).trans x2
                have hvb := (h0.out.row.lt L.vb rfl).2
                have vne : L.cb k ≠ L.vb := by
                  intro e
                  obtain ⟨es, n, ho⟩ := (h0.out.kids k hk').obj
                  rcases h0.out.row.2 with ⟨q, _⟩ | ⟨g0, cc0, cur, q, _, q3, _⟩
                  · cases q
                  · cases q; rw [e, q3] at ho; cases ho
                have hrow3 : w3.ownsRow 0 171 1 (.slice (some ⟨L.vb, 0, none⟩) l3 L.cap) l3 ((List.range l3).map fun i => .pointer (some ⟨L.nb i, 0, none⟩)) := by
                  have q := ownsRow_of (w' := w3) h0.out.row (fun g hg => by
                    cases hg
                    exact (hg3.block _ (Nat.lt_of_lt_of_le hvb (Nat.le_trans hB.size z2)) (fun e => vne (Option.some.inj e).symm)).trans ((hg2.block _ (Nat.lt_of_lt_of_le hvb hB.size) (fun e => by cases e; omega)).trans (hB.block _ hvb)))
                  rwa [E3.out] at q
                have yne := hsb.blk_ne hyb
                have vane : ∀ q, va.ownBlock = some q → q ≠ sb := by
                  intro q hq e
                  obtain ⟨es, n, ho⟩ := hsb.obj
                  rcases hva.2 with ⟨q1, _⟩ | ⟨g0, cc0, cur, q1, _, q3, _⟩
                  · rw [q1] at hq; cases hq
                  · rw [q1] at hq; cases hq; have e' : g0 = sb := e; rw [e', show wc.heap[sb]? = _ from ho] at q3; cases q3
                have YNE := Lib.hid yne
                have VANE := Lib.hid vane
                clear yne vane
                have HROW := Lib.hid hrow3
                have hhd3 : Blk w3 tb 179 [.int .i64 deep, .int .i64 fan, .map (some L.mb), .slice (some ⟨L.vb, 0, none⟩) l3 L.cap] := by
                  have q : Blk w3 tb 179 _ := h0.out.hd.of ((hg3.block _ (Nat.lt_of_lt_of_le ltt (Nat.le_trans hB.size z2)) (fun e => (h0.out.kids k hk').blk_ne h0.out.hd (Option.some.inj e))).trans ((hg2.block _ (Nat.lt_of_lt_of_le ltt hB.size) (fun e => by cases e; omega)).trans (hB.block _ ltt)))
                  rwa [E3.out] at q
                have HHD := Lib.hid hhd3
                have tvb : tb ≠ L.vb := by
                  intro e
                  rcases h0.out.row.2 with ⟨q, _⟩ | ⟨g0, cc0, cur, q, _, q3, _⟩
                  · cases q
                  · cases q
                    have := (show w.heap[tb]? = _ from h0.out.hd).symm.trans (e ▸ q3)
                    simp at this
                have TVB := Lib.hid tvb
                have L3 : Hid (l3 ≤ 4096) := Lib.hid (by rw [← E3.out]; exact h0.out.wf.le)
                have VNE := Lib.hid vne
                have HVB := Lib.hid hvb
                obtain ⟨j0, hj0, jz0, jz1, jz2⟩ := info_parts info171
                clear hvb vne hrow3 hhd3 tvb
                have HS2 := Lib.hid hs2; have HS3 := Lib.hid hs3; have HG2 := Lib.hid hg2; have HG3 := Lib.hid hg3; have HYB := Lib.hid hyb; have HVA := Lib.hid hva; have HCB := Lib.hid hcb; have HBB := Lib.hid hB
                have HF := Lib.hid (And.intro f1 (And.intro f2 (And.intro f3 (And.intro f4 hne))))
                clear hs2 hs3 hg2 hg3 hyb hva hcb hB hk2 hsb hne f1 f2 f3 f4 c0 c1 c2 c3 d0 d1 d2 d3 lk lk2 ln2 ltk lt0 lt2 ltt z2 hk'
                go_wp2_with fail
                go_still_tail 10, (by kernel_rfl)
                go_wp2_with (at_builtin; refine wpList_append_lies _ rfl _ _ 177 rfl 0 171 j0 (.pointer none) 1 8 Try.underlying177 hj0 jz0 jz1 jz2 rfl (by decide) _ l3 _ rfl (HROW.out.alloc _) ⟨w3.heap.size, 0, none⟩ 1 1 [.pointer (some ⟨yb, 0, none⟩)] rfl rfl (cell_one_new _ _ _) (by simp [Value.oneCell']) (by decide) (by have := L3.out; unfold maxLen; omega) (by have := L3.out; omega) (Nat.zero_le _) (w3.heap.size + 1) (by simp) ?_; intro g4 c4 w4 hown4 hg4 hat4 hlt4; have hd4 := (HHD.out.alloc (.cells #[.pointer (some ⟨yb, 0, none⟩)] 171)).of (hg4.block tb (HHD.out.alloc _).lt (fun e => TVB.out (Option.some.inj e))); have x5 := hd4.cell 3 _ rfl; have x6 := hd4.frozen 3; have HD4 := Lib.hid hd4; have HO4 := Lib.hid hown4; have HG4 := Lib.hid hg4; have HA4 := Lib.hid hat4; clear hd4 hown4 hg4 hat4)
                go_ret2
                have hB := HBB.out
                obtain ⟨f1, f2, f3, f4, hne⟩ := HF.out
                have hk' := HK0.out
                have TI := h0.out
                have lt_tb := TI.hd.lt
                have lt_vb := HVB.out
                have lt_cb := (TI.kids k hk').lt
                have z2 : wc.heap.size ≤ w2.heap.size := HG2.out.size
                have z3 := HG3.out.size
                have z4 : w3.heap.size + 1 ≤ w4.heap.size := by have := HG4.out.size; simpa using this
                have K0 : ∀ b, b < w.heap.size → wc.heap[b]? = w.heap[b]? := fun b hb => hB.block b hb
                have K1 : ∀ b, b < wc.heap.size → b ≠ sb → w2.heap[b]? = wc.heap[b]? := fun b hb hn => HG2.out.block b hb (fun e => hn (Option.some.inj e))
                have K2 : ∀ b, b < w2.heap.size → b ≠ L.cb k → w3.heap[b]? = w2.heap[b]? := fun b hb hn => HG3.out.block b hb (fun e => hn (Option.some.inj e))
                have K3 : ∀ b, b < w3.heap.size → b ≠ L.vb → w4.heap[b]? = w3.heap[b]? := fun b hb hn => (HG4.out.block b (by simp; omega) (fun e => hn (Option.some.inj e))).trans (Below.heap_alloc _ _ _ hb)
                have K4 : ∀ (v : Value) b, b ≠ tb → (w4.setCell ⟨tb, 3, none⟩ v).heap[b]? = w4.heap[b]? := fun v b hn => Below.heap_setCell _ _ _ _ hn
                have hz0 := hB.size
                have KN : ∀ (v : Value) b, w.heap.size ≤ b → b < wc.heap.size → b ≠ sb → (w4.setCell ⟨tb, 3, none⟩ v).heap[b]? = wc.heap[b]? := fun v b h1 h2 h3 =>
                  (K4 v b (by omega)).trans ((K3 b (by omega) (by omega)).trans ((K2 b (by omega) (by omega)).trans (K1 b h2 h3)))
                have KO : ∀ (v : Value) b, b < w.heap.size → b ≠ tb → b ≠ L.vb → b ≠ L.cb k → (w4.setCell ⟨tb, 3, none⟩ v).heap[b]? = w.heap[b]? := fun v b h1 h2 h3 h4 =>
                  (K4 v b h2).trans ((K3 b (by omega) h3).trans ((K2 b (by omega) h4).trans ((K1 b (by omega) (by omega)).trans (K0 b h1))))
                have hT' : WF deep (T ++ [(ksOf T k ++ [z], (k : Int))]) := by have q := TI.wf.add (fan := fan) (k : Int) z; rw [EADD.out] at q; exact q
                have hs2b := HS2.out.lt
                have hg4b : g4 = L.vb ∨ g4 = w3.heap.size + 1 := by
                  rcases HA4.out with h | h
                  · exact .inl (Option.some.inj h).symm
                  · exact .inr h
                have hg4t : g4 ≠ tb := by
                  rcases hg4b with h | h
                  · rw [h]; exact Ne.symm TVB.out
                  · omega
                refine ⟨by first | rfl | rw [E3.out], ⟨fun b => B b ∨ w.heap.size ≤ b ∧ b < (w4.setCell ⟨tb, 3, none⟩ (.slice (some ⟨g4, 0, none⟩) (l3 + 1) c4)).heap.size, tree_grow TI k hk' z HM.out hT' HKID.out _ yb sb cb g4 c4 va (by simp; omega) (KO _) ?_ ?_ ?_ ?_ ?_ ?_ ?_ hne f1 f2 f3 f4 ?_, ?_, fun b hb => ?_⟩⟩
                · have q := HD4.out.setSame 3 (.slice (some ⟨g4, 0, none⟩) (l3 + 1) c4)
                  rw [E3.out]; exact q
                · have q := ownsRow_of (w' := w4.setCell ⟨tb, 3, none⟩ (.slice (some ⟨g4, 0, none⟩) (l3 + 1) c4)) HO4.out (fun g hg => by cases hg; exact K4 _ _ hg4t)
                  rw [E3.out]; exact q
                · refine (HS3.out.of (w' := w4.setCell ⟨tb, 3, none⟩ (.slice (some ⟨g4, 0, none⟩) (l3 + 1) c4)) ((K4 _ _ (fun e => (TI.kids k hk').blk_ne TI.hd e.symm)).trans (K3 _ HS3.out.lt VNE.out))).congr fun s _ => rfl
                · exact HYB.out.of (KN _ yb f1 HYB.out.lt YNE.out)
                · rw [E1.out]
                  exact HS2.out.of ((K4 _ sb (by omega)).trans ((K3 sb (by omega) (by omega)).trans (K2 sb hs2b (by omega))))
                · exact HCB.out.of (KN _ cb f3 HCB.out.lt hne)
                · exact ownsRow_of HVA.out fun q hq => KN _ q (f4 q hq) (HVA.out.lt q hq).2 (VANE.out q hq)
                · rcases hg4b with h | h
                  · exact .inl h
                  · right; omega
                · exact ⟨HG4.out.os.trans (HG3.out.os.trans (HG2.out.os.trans hB.os)), HG4.out.tape.trans (HG3.out.tape.trans (HG2.out.tape.trans hB.tape)), HG4.out.output.trans (HG3.out.output.trans (HG2.out.output.trans hB.output)), by simp; omega,
                    fun b hb hnb => KO _ b hb (fun e => hnb (e ▸ TI.ownT)) (fun e => hnb (e ▸ TI.ownV)) (fun e => hnb (e ▸ (TI.ownN k hk').2.2.1))⟩
                · rcases hb with hb | hb
                  · exact .inl hb
                  · exact .inr hb.1
      · have e : addM deep fan T k z = ⟨j, true, T⟩ := by unfold addM; rw [if_neg hi]; dsimp only; rw [if_neg (show ¬ z ∈ (T.getD (k : Int).toNat ([], 0)).1 by rw [Int.toNat_natCast]; exact hm), hkid]
        rw [e]
        rw [hkid] at lk2
        have G := Lib.hid (Grown1.same HT.out)
        clear hi e hm h hkid
        generalize (slotOf (ksOf T k) z).getD 0 = m at *
        go_enter Try.func28, Try.ntmps28
        go_wp2_with (go_at_call 103; refine H.out.mono ?_; rintro e w' ⟨rfl, rfl⟩)
        go_ret2
        exact ⟨rfl, G.out⟩
end
end Go.Proofs.Ytmjfmfelbmbniaa
