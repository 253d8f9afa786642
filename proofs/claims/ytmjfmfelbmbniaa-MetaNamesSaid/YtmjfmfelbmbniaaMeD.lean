/- Layer 15: the law MetaNames. -/
import Derived.Test.YtmjfmfelbmbniaaMeC
namespace Go.Proofs.Ytmjfmfelbmbniaa
open Go.RowKit Go.Maps HK ShM
open Go.WideMaps
set_option linter.unusedVariables false
set_option linter.unusedSimpArgs false
open RH
theorem plainElem_bool_inv {P : Program} {e : TypeId} (he : P.underlying e = some .bool) {v : Value} {z : DataW Unit × List MemPlace} (h : plainElem P e v = some z) : ∃ x, v = .bool x ∧ z = (.lit (.bool x), []) := by
  unfold plainElem at h
  rw [he] at h
  cases v <;> simp at h
  exact ⟨_, rfl, h.symm⟩
/-- Block b is a set of strings: a map to true. -/
def MBo (w : World) (b n : Nat) (p : ByteArray → Bool) : Prop :=
  ∃ D : DataW Unit, w.ownsMap Try.prog 9 (plainElem Try.prog 4) b n D ∧ Maps.size D = n ∧ ∀ s, s.size ≤ maxLen → Maps.has D (key s) = p s ∧ D.atKey (key s) (.lit (.bool false)) = .lit (.bool (p s))
section
variable {w w' : World} {b n : Nat} {p : ByteArray → Bool}
theorem MBo.lt (h : MBo w b n p) : b < w.heap.size := by obtain ⟨D, h, _⟩ := h; exact h.lt
theorem MBo.of (h : MBo w b n p) (he : w'.heap[b]? = w.heap[b]?) : MBo w' b n p := by
  obtain ⟨D, ⟨es, c, h1, h2⟩, h3⟩ := h
  exact ⟨D, ⟨es, c, he.trans h1, h2⟩, h3⟩
theorem MBo.made (w : World) : MBo (w.alloc (.map #[] 0)) w.heap.size 0 (fun _ => false) :=
  ⟨.map [], World.ownsMap_made _ _ _ _, rfl, fun s _ => ⟨rfl, by simp [DataW.atKey]⟩⟩
theorem MBo.look (h : MBo w b n p) (s : ByteArray) (hs : s.size ≤ maxLen) : (Instr.lookup 96 (.map (some b)) (.string s) false).run Try.prog w = .ok (.bool (p s)) w := by
  obtain ⟨D, h1, h2, h3⟩ := h
  obtain ⟨v, ps, hrun, hv⟩ := h1.lookup law9 Try.underlying96 (z := .bool false) (by kernel_rfl) (plainElem_bool Try.underlying4 false) (keyOf_string_mk Try.underlying9 hs)
  rw [(h3 s hs).2] at hv
  rw [hrun]
  obtain ⟨x, rfl, hx⟩ := plainElem_bool_inv Try.underlying4 hv
  simp only [Prod.mk.injEq, DataW.lit.injEq, Lit.bool.injEq] at hx
  rw [hx.1]
theorem MBo.store (h : MBo w b n p) (hn : n < maxLen) (s : ByteArray) (hs : s.size ≤ maxLen) :
    ∃ w', (Instr.mapUpdate 96 (.map (some b)) (.string s) (.bool true)).run Try.prog w = .ok () w' ∧ MBo w' b (if p s then n else n + 1) (fun z => if z = s then true else p z) ∧ w.grownBy w' (some b) := by
  obtain ⟨D, h1, h2, h3⟩ := h
  have htidy := h1.tidy law9
  obtain ⟨w', hrun, h4, h5⟩ := h1.update law9 Try.underlying96 hn (keyOf_string_mk Try.underlying9 hs) (plainElem_bool Try.underlying4 true)
  refine ⟨w', hrun, ⟨D.put (key s) (.lit (.bool true)), ?_, ?_, ?_⟩, h5⟩
  · obtain ⟨es, c, hb, F, hsz, hD⟩ := h4
    refine ⟨es, c, hb, F, ?_, hD⟩
    have e1 : Maps.size (D.put (key s) (.lit (.bool true))) = es.size := by rw [hD, Maps.size_eq, length_read]
    rw [Maps.size_put htidy, h2, (h3 s hs).1] at e1
    rw [← e1]
    exact Nat.le_refl _
  · rw [Maps.size_put htidy, h2, (h3 s hs).1]
  · intro z hz
    by_cases e1 : z = s
    · subst e1
      rw [Maps.has_put_same htidy.isMap (by trivial), Maps.atKey_put_same htidy.isMap (by trivial)]
      simp
    · have e2 : key z ≠ key s := fun h => e1 (key_inj h)
      rw [Maps.has_put_other e2, Maps.atKey_put_other e2]
      simp [e1, (h3 z hz).1, (h3 z hz).2]
end
/-- The names, and which were met. -/
def NS (w0 w : World) (v : Value) (mb k : Nat) : Prop := Strs w v metaNames ∧ MBo w mb k (fun s => decide (s ∈ metaNames.take k)) ∧ Below w0.heap.size w0 w ∧ w0.heap.size ≤ mb ∧ v.ownBlock ≠ some mb
theorem NS.step {w0 w : World} {v : Value} {mb k : Nat} (h : NS w0 w v mb k) (hk : k < metaNames.length) : ∃ w', (Instr.mapUpdate 96 (.map (some mb)) (.string metaNames[k]) (.bool true)).run Try.prog w = .ok () w' ∧ NS w0 w' v mb (k + 1) := by
  obtain ⟨h1, h2, h3, h4, h5⟩ := h
  have hkl : k < 20 := hk
  have hnd : metaNames.Nodup := by decide +kernel
  have hnot : metaNames[k] ∉ metaNames.take k := by
    intro hm
    obtain ⟨j, hj, he⟩ := List.mem_iff_getElem.1 hm
    rw [List.getElem_take] at he
    rw [List.length_take] at hj
    have := (List.getElem_inj hnd).1 he
    omega
  obtain ⟨w', g1, g2, g3⟩ := h2.store (by have : (1000 : Nat) ≤ maxLen := by decide
                                          omega) metaNames[k] (metaNames_size _ (List.getElem_mem _))
  refine ⟨w', g1, ownsRow_of h1 (fun g hg => g3.block g (h1.lt g hg).2 (fun e => h5 (by rw [hg, Option.some.inj e]))), ?_, h3.grown g3 h3.size (fun k e => by cases e; exact h4), h4, h5⟩
  rw [decide_eq_false hnot] at g2
  have e : (fun z => if z = metaNames[k] then true else decide (z ∈ metaNames.take k)) = fun z => decide (z ∈ metaNames.take (k + 1)) := by
    funext z
    have hT : metaNames.take (k + 1) = metaNames.take k ++ [metaNames[k]] := List.take_succ_eq_append_getElem hk
    have hiff : z ∈ metaNames.take (k + 1) ↔ z ∈ metaNames.take k ∨ z = metaNames[k] := by rw [hT]; simp
    by_cases e : z = metaNames[k]
    · rw [if_pos e]; exact (decide_eq_true (hiff.2 (.inr e))).symm
    · rw [if_neg e]; exact decide_eq_decide.2 ⟨fun h => hiff.2 (.inl h), fun h => (hiff.1 h).resolve_right e⟩
  rw [e] at g2
  exact g2
def NM (w0 w : World) (v1 v2 : Value) : Prop := Strs w v1 metaNames ∧ Strs w v2 metaNames ∧ Below w0.heap.size w0 w
theorem NM.below {w0 w w' : World} {v1 v2 : Value} (h : NM w0 w v1 v2) (hb : Below w.heap.size w w') : NM w0 w' v1 v2 := ⟨h.1.below hb, h.2.1.below hb, h.2.2.trans (hb.mono h.2.2.size)⟩
theorem NM.cells {w0 w : World} {g1 g2 n1 c1 n2 c2 k : Nat} {y : ByteArray} (h : NM w0 w (.slice (some ⟨g1, 0, none⟩) n1 c1) (.slice (some ⟨g2, 0, none⟩) n2 c2)) (hk : metaNames[k]? = some y) : w.cell? ⟨g1, k, none⟩ = some (.string y) ∧ w.cell? ⟨g2, k, none⟩ = some (.string y) := by
  obtain ⟨g, cap, e, hc⟩ := h.1.cell hk
  obtain ⟨g', cap', e', hc'⟩ := h.2.1.cell hk
  cases e; cases e'
  exact ⟨hc, hc'⟩
set_option maxHeartbeats 16000000 in
set_option maxRecDepth 20000 in
theorem mnames_walk (n : Nat) (hn : n < 256) (w : World) : Calls Try.prog 12 #[.int .u8 (n : Nat)] w fun e w' => e = .returned (.bool true) ∧ Below w.heap.size w w' := by
  have HAL := Lib.hid (fun (W : World) => malive_calls W)
  have HNM := Lib.hid (fun (W : World) => show Calls Try.prog 70 #[] W fun e w' => ∃ g, e = .returned (.slice (some ⟨g, 0, none⟩) 20 20) ∧ NewStrs W w' (.slice (some ⟨g, 0, none⟩) 20 20) metaNames from (mnames_calls W).mono (fun e w' h => by obtain ⟨v, h1, h2, rfl⟩ := h; exact ⟨_, h1, h2⟩))
  have HRN := Lib.hid (fun (W : World) => show Calls Try.prog 71 #[] W fun e w' => ∃ g, e = .returned (.slice (some ⟨g, 0, none⟩) 20 20) ∧ NewStrs W w' (.slice (some ⟨g, 0, none⟩) 20 20) metaNames from (rnames_calls W).mono (fun e w' h => by obtain ⟨v, h1, h2, rfl⟩ := h; exact ⟨_, h1, h2⟩))
  have hmk : ∀ W, (Instr.makeMap 96 none).run Try.prog W = .ok (.map (some W.heap.size)) (W.alloc (.map #[] 0)) := fun W => by kernel_rfl
  have hn0 : (0 : Int) ≤ (n : Int) := by omega
  have hn1 : (n : Int) < 256 := by omega
  go_enter Try.func12, Try.ntmps12
  go_upto_region 5 with (first
    | (go_at_call 69; (with_reducible refine (HAL.out _).mono ?_); rintro e w1 ⟨rfl, hb⟩; have HB1 := Lib.hid hb; clear hb)
    | (go_at_call 70; (with_reducible refine (HNM.out _).mono ?_); rintro e w2 ⟨g, rfl, ⟨hv, hg, hb⟩⟩; have HB2 := Lib.hid (HB1.out.trans (hb.mono HB1.out.size)); have HV2 := Lib.hid hv; have HG0 := Lib.hid (Nat.le_trans HB1.out.size (hg g rfl)); clear hv hb hg))
  have D3 : Hid (NS w (w2.alloc (.map #[] 0)) (.slice (some ⟨g, 0, none⟩) 20 20) w2.heap.size 0) := Lib.hid (by
    refine ⟨HV2.out.below ((Below.refl _ _).alloc (Nat.le_refl _) _), MBo.made w2, HB2.out.alloc HB2.out.size _, HB2.out.size, fun e => ?_⟩
    have h1 := (HV2.out.lt g rfl).2
    have h2 : g = w2.heap.size := Option.some.inj e
    omega)
  obtain ⟨mb, hmb⟩ : ∃ b, b = w2.heap.size := ⟨_, rfl⟩
  obtain ⟨w3, hw3⟩ : ∃ w3, w3 = w2.alloc (.map #[] 0) := ⟨_, rfl⟩
  rw [← hw3, ← hmb] at D3
  rw [← hw3, ← hmb]
  clear hw3 hmb HV2 HB2 HB1
  go_wp2
  go_loopw [6, 16] (fun _ ii wr => ∃ k : Nat, k ≤ 20 ∧ ii = .int .i64 k ∧ Hid (NS w wr (.slice (some ⟨g, 0, none⟩) 20 20) mb k)) (fun _ ii _ => 20 - (intOf ii).toNat)
  case atStart => exact ⟨0, by omega, rfl, D3⟩
  case round =>
    obtain ⟨k, hk, rfl, hre⟩ := hrel
    by_cases hlt : k < 20
    · have hkl : k < metaNames.length := hlt
      obtain ⟨w5, hup, hst⟩ := hre.out.step hkl
      have HST := Lib.hid hst
      obtain ⟨g', cap, e, hc⟩ := hre.out.1.cell (k := metaNames[k]) (List.getElem?_eq_getElem hkl)
      cases e
      have hlk := hre.out.2.1.look metaNames[k] (metaNames_size _ (List.getElem_mem _))
      have hnot : decide (metaNames[k] ∈ metaNames.take k) = false := decide_eq_false (by
        intro hm
        have hnd : metaNames.Nodup := by decide +kernel
        obtain ⟨j, hj, he⟩ := List.mem_iff_getElem.1 hm
        rw [List.getElem_take] at he
        rw [List.length_take] at hj
        have := (List.getElem_inj hnd).1 he
        omega)
      rw [hnot] at hlk
      have h4 : decide ((metaNames[k].size : Int) < 4) = false := by
        have h : ∀ s ∈ metaNames, decide ((s.size : Int) < 4) = false := by decide +kernel
        exact h _ (List.getElem_mem _)
      have h2 : 2 ≤ metaNames[k].size := by
        have h : ∀ s ∈ metaNames, 2 ≤ s.size := by decide +kernel
        exact h _ (List.getElem_mem _)
      have hex : metaNames[k].extract 0 2 = ⟨#[95, 95]⟩ := by
        have h : ∀ s ∈ metaNames, s.extract 0 2 = ⟨#[95, 95]⟩ := by decide +kernel
        exact h _ (List.getElem_mem _)
      clear hnot hst
      generalize metaNames[k] = y at *
      go_wp2
      go_roundw
      case rel => exact ⟨k + 1, by omega, by go_num, HST⟩
      case measure => simp [intOf]; omega
    · obtain rfl : k = 20 := by omega
      have hj : n % 20 < metaNames.length := Nat.mod_lt _ (by decide)
      obtain ⟨g', cap, e, hc⟩ := hre.out.1.cell (k := metaNames[n % 20]) (List.getElem?_eq_getElem hj)
      cases e
      have hfz := hre.out.1.frozenAt (n % 20)
      have HLG := Lib.hid (hre.out.1.lt g rfl).2
      have HRE := Lib.hid hre.out.2.2.1
      clear hre
      generalize metaNames[n % 20] = y at *
      have hmod : (n : Int) % 20 = ((n % 20 : Nat) : Int) := by omega
      have hj20 : n % 20 < 20 := Nat.mod_lt _ (by decide)
      generalize n % 20 = j at *
      have hj0 : (0 : Int) ≤ (j : Int) := by omega
      have hj1 : (j : Int) < 20 := by omega
      go_upto_region 17 with (first
        | (go_at_call 70; (with_reducible refine (HNM.out _).mono ?_); rintro e w6 ⟨g6, rfl, ⟨hv, _, hb⟩⟩; have HB6 := Lib.hid ((HRE.out.setCell HG0.out _).trans (hb.mono (HRE.out.setCell HG0.out _).size)); have HV6 := Lib.hid hv; clear hv hb)
        | (go_at_call 71; (with_reducible refine (HRN.out _).mono ?_); rintro e w7 ⟨g7, rfl, ⟨hv, _, hb⟩⟩; have D7 : Hid (NM w w7 (.slice (some ⟨g6, 0, none⟩) 20 20) (.slice (some ⟨g7, 0, none⟩) 20 20)) := Lib.hid ⟨HV6.out.below hb, hv, HB6.out.trans (hb.mono HB6.out.size)⟩; clear hv hb))
      clear HB6 HV6 HRE HLG
      go_wp2
      go_loopw [9, 52] (fun _ ii wr => ∃ k : Nat, k ≤ 20 ∧ ii = .int .i64 k ∧ Hid (NM w wr (.slice (some ⟨g6, 0, none⟩) 20 20) (.slice (some ⟨g7, 0, none⟩) 20 20))) (fun _ ii _ => 20 - (intOf ii).toNat)
      case atStart => exact ⟨0, by omega, rfl, D7⟩
      case round =>
        obtain ⟨k, hk, rfl, hrn⟩ := hrel
        by_cases hlt : k < 20
        · have hkl : k < metaNames.length := hlt
          have HKY := Lib.hid (show metaNames[k]? = some metaNames[k] from List.getElem?_eq_getElem hkl)
          generalize metaNames[k] = y at *
          have HCEL := Lib.hid (fun (W : World) (h : NM w W (.slice (some ⟨g6, 0, none⟩) 20 20) (.slice (some ⟨g7, 0, none⟩) 20 20)) => h.cells HKY.out)
          go_upto_region 20 with fail
          have BLp : Below wr.heap.size wr ({ wr with drawn := wr.drawn + 1 } : World) := ⟨rfl, rfl, rfl, Nat.le_refl _, fun _ _ => rfl⟩
          have Dp := Lib.hid (hrn.out.below BLp)
          refine wp_region_held (S := fun W : World => (W.cell? ⟨g6, k, none⟩ = some (.string y)) ∧ (W.cell? ⟨g7, k, none⟩ = some (.string y)) ∧ True) (by kernel_rfl) ?_
          generalize ({ wr with drawn := wr.drawn + 1 } : World) = wp at BLp Dp ⊢
          have hSp : (fun W : World => (W.cell? ⟨g6, k, none⟩ = some (.string y)) ∧ (W.cell? ⟨g7, k, none⟩ = some (.string y)) ∧ True) wp := ⟨(HCEL.out _ Dp.out).1, (HCEL.out _ Dp.out).2, trivial⟩
          have rap : ∀ W : World, ((W.cell? ⟨g6, k, none⟩ = some (.string y)) ∧ (W.cell? ⟨g7, k, none⟩ = some (.string y)) ∧ True) → W.cell? ⟨g6, k, none⟩ = some (.string y) := fun W hW => hW.1
          have rbp : ∀ W : World, ((W.cell? ⟨g6, k, none⟩ = some (.string y)) ∧ (W.cell? ⟨g7, k, none⟩ = some (.string y)) ∧ True) → W.cell? ⟨g7, k, none⟩ = some (.string y) := fun W hW => hW.2.1
          refine takeH 0 (oi := ⟨some 55, _, _, _, _, _⟩) (v := ?_) rfl (by kernel_rfl) (by kernel_rfl) (by kernel_rfl) (fun _ _ _ h => h) (Or.inl ⟨by rfl, ?hyp1⟩) hSp ?restp1
          case hyp1 => (intro W hW; (try dsimp only at hW); go_simp; try with_reducible rfl)
          try simp only [Act.put, List.setIfInBounds_toArray, List.set_cons_zero, List.set_cons_succ]
          refine takeH 1 (oi := ⟨some 56, _, _, _, _, _⟩) (v := ?_) rfl (by kernel_rfl) (by kernel_rfl) (by kernel_rfl) (fun _ _ _ h => h) (Or.inl ⟨by rfl, ?hyp2⟩) hSp ?restp2
          case hyp2 => (intro W hW; (try dsimp only at hW); go_simp; try with_reducible rfl)
          try simp only [Act.put, List.setIfInBounds_toArray, List.set_cons_zero, List.set_cons_succ]
          refine takeH 2 (oi := ⟨some 57, _, _, _, _, _⟩) (v := ?_) rfl (by kernel_rfl) (by kernel_rfl) (by kernel_rfl) (fun _ _ _ h => h) (Or.inl ⟨by rfl, ?hyp3⟩) hSp ?restp3
          case hyp3 => (intro W hW; (try dsimp only at hW); go_simp; try with_reducible rfl)
          try simp only [Act.put, List.setIfInBounds_toArray, List.set_cons_zero, List.set_cons_succ]
          refine takeH 3 (oi := ⟨some 58, _, _, _, _, _⟩) (v := ?_) rfl (by kernel_rfl) (by kernel_rfl) (by kernel_rfl) (fun _ _ _ h => h) (Or.inl ⟨by rfl, ?hyp4⟩) hSp ?restp4
          case hyp4 => (intro W hW; (try dsimp only at hW); go_simp; try with_reducible rfl)
          try simp only [Act.put, List.setIfInBounds_toArray, List.set_cons_zero, List.set_cons_succ]
          refine takeH 4 (oi := ⟨some 59, _, _, _, _, _⟩) (v := ?_) rfl (by kernel_rfl) (by kernel_rfl) (by kernel_rfl) (fun _ _ _ h => h) (Or.inl ⟨by rfl, ?hyp5⟩) hSp ?restp5
          case hyp5 => (intro W hW; (try dsimp only at hW); go_simp; try with_reducible rfl)
          try simp only [Act.put, List.setIfInBounds_toArray, List.set_cons_zero, List.set_cons_succ]
          refine takeH 5 (oi := ⟨some 60, _, _, _, _, _⟩) (v := ?_) rfl (by kernel_rfl) (by kernel_rfl) (by kernel_rfl) (fun _ _ _ h => h) (Or.inl ⟨by rfl, ?hyp6⟩) hSp ?restp6
          case hyp6 => (intro W hW; (try dsimp only at hW); go_simp; try with_reducible rfl)
          try simp only [Act.put, List.setIfInBounds_toArray, List.set_cons_zero, List.set_cons_succ]
          refine takeH 6 (oi := ⟨some 61, _, _, _, _, _⟩) (v := ?_) rfl (by kernel_rfl) (by kernel_rfl) (by kernel_rfl) (fun _ _ _ h => h) (Or.inl ⟨by rfl, ?hyp7⟩) hSp ?restp7
          case hyp7 => (intro W hW; (try dsimp only at hW); go_simp; try with_reducible rfl)
          try simp only [Act.put, List.setIfInBounds_toArray, List.set_cons_zero, List.set_cons_succ]
          refine takeH 7 (oi := ⟨some 62, _, _, _, _, _⟩) (v := ?_) rfl (by kernel_rfl) (by kernel_rfl) (by kernel_rfl) (fun _ _ _ h => h) (Or.inl ⟨by rfl, ?hyp8⟩) hSp ?restp8
          case hyp8 => (intro W hW; (try dsimp only at hW); go_simp; try with_reducible rfl)
          try simp only [Act.put, List.setIfInBounds_toArray, List.set_cons_zero, List.set_cons_succ]
          refine takeH 8 (oi := ⟨some 63, _, _, _, _, _⟩) (v := ?_) rfl (by kernel_rfl) (by kernel_rfl) (by kernel_rfl) (fun _ _ _ h => h) (Or.inl ⟨by rfl, ?hyp9⟩) hSp ?restp9
          case hyp9 => (intro W hW; (try dsimp only at hW); go_simp; try with_reducible rfl)
          try simp only [Act.put, List.setIfInBounds_toArray, List.set_cons_zero, List.set_cons_succ]
          refine wpAnyH_done (by kernel_rfl) ?_ _
          clear rap rbp
          go_wp2
          go_roundw
          case rel => exact ⟨k + 1, by omega, by go_num, Dp⟩
          case measure => simp [intOf]; omega
        · obtain rfl : k = 20 := by omega
          go_wp2
          go_ret
          exact ⟨rfl, hrn.out.2.2⟩
theorem mnames_walk_int (n : Int) (w : World) (h : (Lit.int .u8 n).wf = true) : Calls Try.prog 12 #[.int .u8 n] w fun e w' => e = .returned (.bool true) ∧ Below w.heap.size w w' := by
  have h1 : 0 ≤ n ∧ n < 256 := by simp [Lit.wf, IntKind.min, IntKind.max, IntKind.signed, IntKind.bits, IntKind.wrap] at h; omega
  obtain ⟨m, rfl⟩ : ∃ m : Nat, n = (m : Int) := ⟨n.toNat, by omega⟩
  exact mnames_walk m (by omega) w
end Go.Proofs.Ytmjfmfelbmbniaa
