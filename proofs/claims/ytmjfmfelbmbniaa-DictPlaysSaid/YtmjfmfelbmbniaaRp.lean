/- The reference's dictionary: Drop. -/
import Derived.Test.YtmjfmfelbmbniaaRs
namespace Go.Proofs.Ytmjfmfelbmbniaa
open Go.RowKit Go.Maps HK ShM
set_option linter.unusedVariables false
set_option linter.unusedSimpArgs false
theorem flatP_get {l : Pairs} {j : Nat} {u : Value} (h : (flatP l)[j]? = some u) : ∃ x, l[j / 6]? = some x ∧ (pcells x)[j % 6]? = some u := by
  have hlt := (List.getElem?_eq_some_iff.1 h).1
  rw [flatP_len] at hlt
  have hl : j / 6 < l.length := by omega
  refine ⟨l[j / 6], List.getElem?_eq_getElem hl, ?_⟩
  rw [← flatP_at (List.getElem?_eq_getElem hl) (Nat.mod_lt _ (by decide)), show j / 6 * 6 + j % 6 = j by omega]
  exact h
/-- Pairs behind a row of pairs. -/
theorem run_append_pairs (w : World) (base : Nat) (v : Value) (K : Pairs) (ho : w.ownsRow base 197 6 v K.length (flatP K)) (b off n c : Nat) (L : Pairs) (hn : n = L.length) (hc : ∀ j x, L[j]? = some x → ∀ i u, i < 6 → (pcells x)[i]? = some u → w.cell? ⟨b, off + j * 6 + i, none⟩ = some u) (hl : K.length + L.length ≤ 1048576) (hbase : base ≤ w.heap.size) :
    ∃ v' w', (Builtin.append_ #[72, 72] 72 #[v, .slice (some ⟨b, off, none⟩) n c]).run Try.prog w = .ok v' w' ∧ w'.ownsRow base 197 6 v' (K ++ L).length (flatP (K ++ L)) ∧ w.grownBy w' v.ownBlock ∧ (v'.ownBlock = v.ownBlock ∨ v'.ownBlock = some w.heap.size) := by
  subst hn
  obtain ⟨i0, hi, hz0, hz1, hz2⟩ := info_parts info197
  obtain ⟨v', w', r1, r2, r3, r4, r5⟩ := run_append_own_at (P := Try.prog) w base 72 72 197 i0 _ 6 64 Try.underlying72 hi hz0 hz1 hz2 rfl (by decide) v K.length _ ho ⟨b, off, none⟩ L.length c (flatP L) (flatP_len L) (fun j u hu => by
      obtain ⟨x, hx, hc1⟩ := flatP_get hu
      have e2 : (⟨b, off, none⟩ : Addr).add j = ⟨b, off + j, none⟩ := by unfold Addr.add; split <;> simp_all
      rw [e2]
      have := hc (j / 6) x hx (j % 6) u (Nat.mod_lt _ (by decide)) hc1
      rwa [show off + j / 6 * 6 + j % 6 = off + j by omega] at this) (flatP_oneCell L) (by have : maxLen = 9223372036854775807 := rfl; omega) (by omega) hbase
  refine ⟨v', w', r1, ?_, r3, r5⟩
  rw [flatP_append, List.length_append]
  exact r2
theorem dropA_at {L : Pairs} (hk : KeysOK L) {n : Nat} {k v : Val} (h : L[n]? = some (k, v)) : dropA L k = L.take n ++ L.drop (n + 1) := by
  obtain ⟨hlt, he⟩ := List.getElem?_eq_some_iff.1 h
  have hL : L = L.take n ++ (k, v) :: L.drop (n + 1) := by rw [← he, ← List.drop_eq_getElem_cons hlt, List.take_append_drop]
  have hn := hk.1
  rw [hL] at hn
  obtain ⟨h1, h2⟩ := not_mem_left hn
  have hoff : ∀ {M : Pairs}, k ∉ keysOf M → M.filter (fun x => decide (x.1 ≠ k)) = M := fun {M} hm => List.filter_eq_self.2 (fun p hp => by
    have : p.1 ≠ k := fun e => hm (by rw [← e]; exact List.mem_map.2 ⟨p, hp, rfl⟩)
    simpa using this)
  conv => lhs; rw [hL]
  unfold dropA
  rw [List.filter_append, List.filter_cons_of_neg (by simp), hoff h1, hoff h2]
section
variable {w w' : World} {X : Nat → Prop} {rb : Nat} {L : Pairs}
set_option maxHeartbeats 8000000 in
set_option maxRecDepth 20000 in
theorem rdrop_calls (h : RD w X rb L) (hkk : KeysOK L) (x : Val) (hL : L.length ≤ 1048576) : Calls Try.prog 115 #[.pointer (some ⟨rb, 0, none⟩), x.v] w fun e w' => e = .returned (.bool (hasK L x)) ∧ ∃ X', RD w' X' rb (if hasK L x then dropA L (keyV x) else L) ∧ (∀ b, X' b → X b ∨ w.heap.size ≤ b) ∧ Chg X w w' := by
  have HP := Lib.hid (fun (W : World) (h : RD W X rb L) => rplace_calls h x hL)
  have HD := Lib.hid h
  have HB0 : Hid (Below w.heap.size w (w.alloc (.cells #[.int .i64 x.k, .int .i64 x.n, .string x.s] 57))) := Lib.hid ((Below.refl _ _).alloc (Nat.le_refl _) _)
  have HHIT := Lib.hid (fun (n : Nat) (u : Val) (h1 : x.bad = false) (h2 : L[n]? = some (keyV x, u)) => show hasK L x = true ∧ (if hasK L x then dropA L (keyV x) else L) = L.take n ++ L.drop (n + 1) from by
    have hg := (place_hit hkk h1 h2).1
    rw [hg]; exact ⟨rfl, dropA_at hkk h2⟩)
  have HMIS := Lib.hid (fun (h : x.bad = true ∨ ∀ p ∈ L, p.1 ≠ keyV x) => show hasK L x = false ∧ (if hasK L x then dropA L (keyV x) else L) = L from by
    rw [(place_miss h).1]; exact ⟨rfl, rfl⟩)
  obtain ⟨DL, hDL⟩ : ∃ z, (if hasK L x then dropA L (keyV x) else L) = z := ⟨_, rfl⟩
  obtain ⟨DF, hDF⟩ : ∃ z, hasK L x = z := ⟨_, rfl⟩
  rw [hDL] at HHIT HMIS ⊢
  rw [hDF] at HHIT HMIS ⊢
  clear hDL hDF h
  obtain ⟨x1, x2, x3⟩ := x
  go_enter Try.func115, Try.ntmps115
  go_upto_region 2 with (go_at_call 149; (with_reducible refine (HP.out _ (HD.out.below HB0.out)).mono ?_); rintro e w3 ⟨i, rfl, hp, hb⟩; have HB3 := Lib.hid (HB0.out.trans (hb.mono HB0.out.size)); have HP1 := Lib.hid hp; clear hb hp)
  rcases HP1.out with ⟨hb, n, v, rfl, hn⟩ | ⟨rfl, hm⟩
  · obtain ⟨rfl, rfl⟩ := HHIT.out n v hb hn
    obtain ⟨rv, hri⟩ := HD.out.below HB3.out
    have HI := Lib.hid hri
    clear hri
    obtain ⟨g, cap, hrv, _⟩ := HI.out.cell hn
    subst hrv
    have hlt := (List.getElem?_eq_some_iff.1 hn).1
    obtain ⟨m, hm⟩ : ∃ m, m = L.length := ⟨_, rfl⟩
    have EM := Lib.hid hm
    rw [← hm] at hlt hL
    have hn0 : (0 : Int) ≤ (n : Int) := by omega
    have hn1 : (n : Int) + 1 ≤ (m : Int) := by omega
    have hn2 : n ≤ m := by omega
    have hn4 : (n : Int) ≤ (n : Int) + 1 := by omega
    have hn5 : (0 : Int) ≤ (n : Int) + 1 := by omega
    have hwr : IntKind.i64.wrap ((n : Int) + 1) = (n : Int) + 1 := by
      have h9 : (n : Int) + 1 ≤ 1048576 := by omega
      rw [← wrap64_eq, RowKit.wrap64]
      omega
    have hcap : m ≤ cap ∧ cap ≤ 9223372036854775807 := by
      obtain ⟨_, _, hre, hc1, hc2⟩ := HI.out.form
      rw [(Value.slice.inj hre).2.2, hm]; exact ⟨hc1, hc2⟩
    obtain ⟨hcap1, hcap2⟩ := hcap
    have hn3 : n ≤ cap := by omega
    clear hn hm HHIT HMIS HP HP1 hb
    have h0 : n < 1048576 := by omega
    go_upto_region 4 with (fail)
    have hB0 : Below w3.heap.size w3 ({ w3 with drawn := w3.drawn + 1 } : World) := ⟨rfl, rfl, rfl, Nat.le_refl _, fun _ _ => rfl⟩
    have HIC := Lib.hid (HI.out.below hB0)
    have HCC : Hid (Chg X w ({ w3 with drawn := w3.drawn + 1 } : World)) := Lib.hid (Chg.ofBelow (HB3.out.trans (hB0.mono HB3.out.size)))
    refine RG.region_F (Below w3.heap.size w3) 19 (by kernel_rfl) ?_
    have hS0 := hB0
    have hsz : w3.heap.size ≤ ({ w3 with drawn := w3.drawn + 1 } : World).heap.size := Nat.le_refl _
    have hsz' : ({ w3 with drawn := w3.drawn + 1 } : World).heap.size ≤ w3.heap.size := Nat.le_refl _
    generalize ({ w3 with drawn := w3.drawn + 1 } : World) = wc at *
    have q0 : ∀ W, Below w3.heap.size w3 W → W.cell? ⟨rb, 0, none⟩ = some (.slice (some ⟨g, 0, none⟩) m cap) := fun W hW => by rw [EM.out]; exact (HI.out.below hW).hd.cell 0 _ rfl
    have qc : Hid (∀ W, Below w3.heap.size w3 W → ∀ j y, L[j]? = some y → ∀ i u, i < 6 → (pcells y)[i]? = some u → W.cell? ⟨g, j * 6 + i, none⟩ = some u) := Lib.hid (fun W hW j y hy i u hi hu => by
      obtain ⟨g', cap', he, hcl⟩ := (HI.out.below hW).cell hy
      cases he
      exact hcl i u hi hu)
    by_cases hce : cap = n + 1
    · have hmn : m = n + 1 := by omega
      subst hce
      subst hmn
      refine RG.takeF 0 (oi := ⟨some 11, _, _, _, _, _⟩) (v := ?_) rfl (by kernel_rfl) (by kernel_rfl) (by kernel_rfl) (by kernel_rfl) (fun _ _ _ h => h) (Or.inl ⟨by rfl, ?hyA0⟩) hS0 ?restA0
      case hyA0 => (intro W hW; (try dsimp only at hW); go_simp; try with_reducible rfl)
      simp only [Act.put, List.setIfInBounds_toArray, List.set_cons_zero, List.set_cons_succ]
      refine RG.takeF 2 (oi := ⟨some 13, _, _, _, _, _⟩) (v := ?_) rfl (by kernel_rfl) (by kernel_rfl) (by kernel_rfl) (by kernel_rfl) (fun _ _ _ h => h) (Or.inl ⟨by rfl, ?hyA2⟩) hS0 ?restA2
      case hyA2 => (intro W hW; (try dsimp only at hW); go_simp; try with_reducible rfl)
      simp only [Act.put, List.setIfInBounds_toArray, List.set_cons_zero, List.set_cons_succ]
      refine RG.takeF 3 (oi := ⟨some 14, _, _, _, _, _⟩) (v := ?_) rfl (by kernel_rfl) (by kernel_rfl) (by kernel_rfl) (by kernel_rfl) (fun _ _ _ h => h) (Or.inl ⟨by rfl, ?hyA3⟩) hS0 ?restA3
      case hyA3 => (intro W hW; (try dsimp only at hW); go_simp; try with_reducible rfl)
      simp only [Act.put, List.setIfInBounds_toArray, List.set_cons_zero, List.set_cons_succ]
      refine RG.takeF 4 (oi := ⟨some 15, _, _, _, _, _⟩) (v := ?_) rfl (by kernel_rfl) (by kernel_rfl) (by kernel_rfl) (by kernel_rfl) (fun _ _ _ h => h) (Or.inl ⟨by rfl, ?hyA4⟩) hS0 ?restA4
      case hyA4 => (intro W hW; (try dsimp only at hW); go_simp; try with_reducible rfl)
      simp only [Act.put, List.setIfInBounds_toArray, List.set_cons_zero, List.set_cons_succ]
      refine RG.takeF 5 (oi := ⟨some 16, _, _, _, _, _⟩) (v := ?_) rfl (by kernel_rfl) (by kernel_rfl) (by kernel_rfl) (by kernel_rfl) (fun _ _ _ h => h) (Or.inl ⟨by rfl, ?hyA5⟩) hS0 ?restA5
      case hyA5 => (intro W hW; (try dsimp only at hW); go_simp; try with_reducible rfl)
      simp only [Act.put, List.setIfInBounds_toArray, List.set_cons_zero, List.set_cons_succ]
      refine RG.takeF 6 (oi := ⟨some 17, _, _, _, _, _⟩) (v := ?_) rfl (by kernel_rfl) (by kernel_rfl) (by kernel_rfl) (by kernel_rfl) (fun _ _ _ h => h) (Or.inl ⟨by rfl, ?hyA6⟩) hS0 ?restA6
      case hyA6 => (intro W hW; (try dsimp only at hW); go_simp; try with_reducible rfl)
      simp only [Act.put, List.setIfInBounds_toArray, List.set_cons_zero, List.set_cons_succ]
      refine RG.takeF 7 (oi := ⟨some 18, _, _, _, _, _⟩) (v := ?_) rfl (by kernel_rfl) (by kernel_rfl) (by kernel_rfl) (by kernel_rfl) (fun _ _ _ h => h) (Or.inl ⟨by rfl, ?hyA7⟩) hS0 ?restA7
      case hyA7 => (intro W hW; (try dsimp only at hW); go_simp; try with_reducible rfl)
      simp only [Act.put, List.setIfInBounds_toArray, List.set_cons_zero, List.set_cons_succ]
      refine RG.takeF 9 (oi := ⟨some 20, _, _, _, _, _⟩) (v := ?_) rfl (by kernel_rfl) (by kernel_rfl) (by kernel_rfl) (by kernel_rfl) (fun _ _ _ h => h) (Or.inl ⟨by rfl, ?hyA9⟩) hS0 ?restA9
      case hyA9 => (intro W hW; (try dsimp only at hW); go_simp; try with_reducible rfl)
      simp only [Act.put, List.setIfInBounds_toArray, List.set_cons_zero, List.set_cons_succ]
      refine RG.takeF 10 (oi := ⟨some 21, _, _, _, _, _⟩) (v := ?_) rfl (by kernel_rfl) (by kernel_rfl) (by kernel_rfl) (by kernel_rfl) (fun _ _ _ h => h) (Or.inl ⟨by rfl, ?hyA10⟩) hS0 ?restA10
      case hyA10 => (intro W hW; (try dsimp only at hW); go_simp; try with_reducible rfl)
      simp only [Act.put, List.setIfInBounds_toArray, List.set_cons_zero, List.set_cons_succ]
      refine RG.takeF 11 (oi := ⟨some 22, _, _, _, _, _⟩) (v := ?_) rfl (by kernel_rfl) (by kernel_rfl) (by kernel_rfl) (by kernel_rfl) (fun _ _ _ h => h) (Or.inl ⟨by rfl, ?hyA11⟩) hS0 ?restA11
      case hyA11 => (intro W hW; (try dsimp only at hW); go_simp; try with_reducible rfl)
      simp only [Act.put, List.setIfInBounds_toArray, List.set_cons_zero, List.set_cons_succ]
      refine RG.takeF 12 (oi := ⟨some 23, _, _, _, _, _⟩) (v := ?_) rfl (by kernel_rfl) (by kernel_rfl) (by kernel_rfl) (by kernel_rfl) (fun _ _ _ h => h) (Or.inl ⟨by rfl, ?hyA12⟩) hS0 ?restA12
      case hyA12 => (intro W hW; (try dsimp only at hW); go_simp; try with_reducible rfl)
      simp only [Act.put, List.setIfInBounds_toArray, List.set_cons_zero, List.set_cons_succ]
      refine RG.takeF 13 (oi := ⟨some 24, _, _, _, _, _⟩) (v := ?_) rfl (by kernel_rfl) (by kernel_rfl) (by kernel_rfl) (by kernel_rfl) (fun _ _ _ h => h) (Or.inl ⟨by rfl, ?hyA13⟩) hS0 ?restA13
      case hyA13 => (intro W hW; (try dsimp only at hW); go_simp; try with_reducible rfl)
      simp only [Act.put, List.setIfInBounds_toArray, List.set_cons_zero, List.set_cons_succ]
      refine RG.takeF 14 (oi := ⟨some 25, _, _, _, _, _⟩) (v := ?_) rfl (by kernel_rfl) (by kernel_rfl) (by kernel_rfl) (by kernel_rfl) (fun _ _ _ h => h) (Or.inl ⟨by rfl, ?hyA14⟩) hS0 ?restA14
      case hyA14 => (intro W hW; (try dsimp only at hW); go_simp; try with_reducible rfl)
      simp only [Act.put, List.setIfInBounds_toArray, List.set_cons_zero, List.set_cons_succ]
      refine RG.takeF 15 (oi := ⟨some 26, _, _, _, _, _⟩) (v := ?_) rfl (by kernel_rfl) (by kernel_rfl) (by kernel_rfl) (by kernel_rfl) (fun _ _ _ h => h) (Or.inl ⟨by rfl, ?hyA15⟩) hS0 ?restA15
      case hyA15 => (intro W hW; (try dsimp only at hW); go_simp; try with_reducible rfl)
      simp only [Act.put, List.setIfInBounds_toArray, List.set_cons_zero, List.set_cons_succ]
      have hS1 : Below w3.heap.size w3 (wc.alloc (.cells #[] 197)) := hS0.alloc hS0.size _
      refine RG.oneF 1 (by kernel_rfl) (by decide) ?_
      refine RG.wpOp_plain rfl rfl fun K hK => ?_
      go_simp
      refine hK _ _ ⟨hS1, ?_⟩
      clear hK K
      try simp only [Act.put, List.setIfInBounds_toArray, List.set_cons_zero, List.set_cons_succ]
      have o1 : (wc.alloc (.cells #[] 197)).ownsRow wc.heap.size 197 6 (.slice (some ⟨wc.heap.size, 0, none⟩) 0 0) 0 [] := World.ownsRow_made wc #[] 0 (Nat.le_refl _) (Nat.zero_le _) rfl
      obtain ⟨v1, wd, r1, o2, g1, a1⟩ := run_append_pairs (wc.alloc (.cells #[] 197)) wc.heap.size _ [] o1 g 0 n (n + 1) (L.take n) (by rw [List.length_take, ← EM.out]; omega) (fun j y hy i u hi hu => by
        rw [Nat.zero_add]
        rw [List.getElem?_take] at hy
        split at hy
        · exact qc.out _ hS1 j y hy i u hi hu
        · cases hy) (by rw [List.length_take]; simp; omega) (by simp)
      refine RG.oneF 8 (by kernel_rfl) (by decide) ?_
      refine RG.wpOp_plain rfl rfl fun K hK => ?_
      refine RG.wp_append_run _ _ 72 72 rfl rfl rfl r1 ?_
      have hS2 : Below w3.heap.size w3 wd := hS1.grown g1 hS1.size (fun q hq => by cases hq; exact hsz)
      refine hK _ _ ⟨hS2, ?_⟩
      clear hK K
      try simp only [Act.put, List.setIfInBounds_toArray, List.set_cons_zero, List.set_cons_succ]
      have o2' : wd.ownsRow wc.heap.size 197 6 v1 (L.take n).length (flatP (L.take n)) := o2
      obtain ⟨v2, we, r2, o3, g2, a2⟩ := run_append_pairs wd wc.heap.size _ (L.take n) o2' g 0 0 0 (L.drop (n + 1)) (by rw [List.length_drop, ← EM.out]; omega) (fun j y hy i u hi hu => by
        rw [List.getElem?_drop] at hy
        exfalso; have := (List.getElem?_eq_some_iff.1 hy).1; rw [← EM.out] at this; omega) (by rw [List.length_take, List.length_drop, ← EM.out]; omega) (Nat.le_trans (by simp) g1.size)
      refine RG.oneF 16 (by kernel_rfl) (by decide) ?_
      refine RG.wpOp_plain rfl rfl fun K hK => ?_
      refine RG.wp_append_run _ _ 72 72 rfl rfl rfl r2 ?_
      have hnew : ∀ q, v1.ownBlock = some q → wc.heap.size ≤ q := fun q hq => (o2.lt q hq).1
      have hS3 : Below w3.heap.size w3 we := hS2.grown g2 hS2.size (fun q hq => Nat.le_trans hsz (hnew q hq))
      refine hK _ _ ⟨hS3, ?_⟩
      clear hK K
      try simp only [Act.put, List.setIfInBounds_toArray, List.set_cons_zero, List.set_cons_succ]
      refine RG.oneF 17 (by kernel_rfl) (by decide) ?_
      refine RG.wpOp_plain rfl rfl fun K hK => ?_
      go_simp
      refine hK _ _ ⟨hS3, ?_⟩
      clear hK K
      try simp only [Act.put, List.setIfInBounds_toArray, List.set_cons_zero, List.set_cons_succ]
      refine RG.oneF 18 (by kernel_rfl) (by decide) ?_
      refine RG.wpOp_plain rfl rfl fun K hK => ?_
      go_simp
      refine hK _ _ ⟨hS3, ?_⟩
      clear hK K
      try simp only [Act.put, List.setIfInBounds_toArray, List.set_cons_zero, List.set_cons_succ]
      obtain ⟨na, nn, nc, rfl⟩ : ∃ na nn nc, v2 = .slice na nn nc := by
        rcases o3.2 with ⟨h, _⟩ | ⟨g, cap, cur, h, _⟩
        · exact ⟨_, _, _, h⟩
        · exact ⟨_, _, _, h⟩
      have hcw : Chg (fun b => wc.heap.size ≤ b) wc we := by
        have e1 : Chg (fun b => wc.heap.size ≤ b) wc (wc.alloc (.cells #[] 197)) := (Chg.refl _ _).alloc _
        have e2 := e1.grown g1 (fun q hq h => by cases hq; exact Nat.le_refl _)
        exact e2.grown g2 (fun q hq h => hnew q hq)
      have HFIN := Lib.hid (HIC.out.replaced (L' := L.take n ++ L.drop (n + 1)) (World.ownsRow.mono o3 (Nat.zero_le _)) hcw (Nat.not_le.2 HIC.out.hd.lt))
      have HAT2 : Hid (∀ b, (Value.slice na nn nc).ownBlock = some b → wc.heap.size ≤ b) := Lib.hid (fun b hb => (o3.lt b hb).1)
      have HCW := Lib.hid hcw
      have hdd := HIC.out.hd.of (hcw.block _ HIC.out.hd.lt (Nat.not_le.2 HIC.out.hd.lt))
      have x0 := hdd.cell 0 _ rfl
      have f0 := hdd.frozen 0
      clear r1 r2 o1 o2 o2' o3 g1 g2 a1 a2 hdd
      refine RG.lastF (by kernel_rfl) (by kernel_rfl) ?_
      refine RG.wpOp_plain rfl rfl fun K hK => ?_
      go_simp
      refine hK _ _ ?_
      clear hK K
      try simp only [Act.put, List.setIfInBounds_toArray, List.set_cons_zero, List.set_cons_succ]
      clear q0 x0 f0 hS0 hS1 hS2 hS3 hcw
      go_wp2
      go_ret
      refine ⟨rfl, _, ⟨_, HFIN.out⟩, fun b hb => ?_, ?_⟩
      · rcases hb with hb | hb
        · exact .inl hb
        · exact .inr (Nat.le_trans HCC.out.size (HAT2.out b hb))
      · exact (HCC.out.trans HCW.out (fun b h1 h2 => absurd (Nat.le_trans HCC.out.size h2) (by omega))).setCell (fun _ => HIC.out.ownR) _
    · have hce' : ¬ (cap = n + 1) := hce
      refine RG.takeF 0 (oi := ⟨some 11, _, _, _, _, _⟩) (v := ?_) rfl (by kernel_rfl) (by kernel_rfl) (by kernel_rfl) (by kernel_rfl) (fun _ _ _ h => h) (Or.inl ⟨by rfl, ?hyB0⟩) hS0 ?restB0
      case hyB0 => (intro W hW; (try dsimp only at hW); go_simp; try with_reducible rfl)
      simp only [Act.put, List.setIfInBounds_toArray, List.set_cons_zero, List.set_cons_succ]
      refine RG.takeF 2 (oi := ⟨some 13, _, _, _, _, _⟩) (v := ?_) rfl (by kernel_rfl) (by kernel_rfl) (by kernel_rfl) (by kernel_rfl) (fun _ _ _ h => h) (Or.inl ⟨by rfl, ?hyB2⟩) hS0 ?restB2
      case hyB2 => (intro W hW; (try dsimp only at hW); go_simp; try with_reducible rfl)
      simp only [Act.put, List.setIfInBounds_toArray, List.set_cons_zero, List.set_cons_succ]
      refine RG.takeF 3 (oi := ⟨some 14, _, _, _, _, _⟩) (v := ?_) rfl (by kernel_rfl) (by kernel_rfl) (by kernel_rfl) (by kernel_rfl) (fun _ _ _ h => h) (Or.inl ⟨by rfl, ?hyB3⟩) hS0 ?restB3
      case hyB3 => (intro W hW; (try dsimp only at hW); go_simp; try with_reducible rfl)
      simp only [Act.put, List.setIfInBounds_toArray, List.set_cons_zero, List.set_cons_succ]
      refine RG.takeF 4 (oi := ⟨some 15, _, _, _, _, _⟩) (v := ?_) rfl (by kernel_rfl) (by kernel_rfl) (by kernel_rfl) (by kernel_rfl) (fun _ _ _ h => h) (Or.inl ⟨by rfl, ?hyB4⟩) hS0 ?restB4
      case hyB4 => (intro W hW; (try dsimp only at hW); go_simp; try with_reducible rfl)
      simp only [Act.put, List.setIfInBounds_toArray, List.set_cons_zero, List.set_cons_succ]
      refine RG.takeF 5 (oi := ⟨some 16, _, _, _, _, _⟩) (v := ?_) rfl (by kernel_rfl) (by kernel_rfl) (by kernel_rfl) (by kernel_rfl) (fun _ _ _ h => h) (Or.inl ⟨by rfl, ?hyB5⟩) hS0 ?restB5
      case hyB5 => (intro W hW; (try dsimp only at hW); go_simp; try with_reducible rfl)
      simp only [Act.put, List.setIfInBounds_toArray, List.set_cons_zero, List.set_cons_succ]
      refine RG.takeF 6 (oi := ⟨some 17, _, _, _, _, _⟩) (v := ?_) rfl (by kernel_rfl) (by kernel_rfl) (by kernel_rfl) (by kernel_rfl) (fun _ _ _ h => h) (Or.inl ⟨by rfl, ?hyB6⟩) hS0 ?restB6
      case hyB6 => (intro W hW; (try dsimp only at hW); go_simp; try with_reducible rfl)
      simp only [Act.put, List.setIfInBounds_toArray, List.set_cons_zero, List.set_cons_succ]
      refine RG.takeF 7 (oi := ⟨some 18, _, _, _, _, _⟩) (v := ?_) rfl (by kernel_rfl) (by kernel_rfl) (by kernel_rfl) (by kernel_rfl) (fun _ _ _ h => h) (Or.inl ⟨by rfl, ?hyB7⟩) hS0 ?restB7
      case hyB7 => (intro W hW; (try dsimp only at hW); go_simp; try with_reducible rfl)
      simp only [Act.put, List.setIfInBounds_toArray, List.set_cons_zero, List.set_cons_succ]
      refine RG.takeF 9 (oi := ⟨some 20, _, _, _, _, _⟩) (v := ?_) rfl (by kernel_rfl) (by kernel_rfl) (by kernel_rfl) (by kernel_rfl) (fun _ _ _ h => h) (Or.inl ⟨by rfl, ?hyB9⟩) hS0 ?restB9
      case hyB9 => (intro W hW; (try dsimp only at hW); go_simp; try with_reducible rfl)
      simp only [Act.put, List.setIfInBounds_toArray, List.set_cons_zero, List.set_cons_succ]
      refine RG.takeF 10 (oi := ⟨some 21, _, _, _, _, _⟩) (v := ?_) rfl (by kernel_rfl) (by kernel_rfl) (by kernel_rfl) (by kernel_rfl) (fun _ _ _ h => h) (Or.inl ⟨by rfl, ?hyB10⟩) hS0 ?restB10
      case hyB10 => (intro W hW; (try dsimp only at hW); go_simp; try with_reducible rfl)
      simp only [Act.put, List.setIfInBounds_toArray, List.set_cons_zero, List.set_cons_succ]
      refine RG.takeF 11 (oi := ⟨some 22, _, _, _, _, _⟩) (v := ?_) rfl (by kernel_rfl) (by kernel_rfl) (by kernel_rfl) (by kernel_rfl) (fun _ _ _ h => h) (Or.inl ⟨by rfl, ?hyB11⟩) hS0 ?restB11
      case hyB11 => (intro W hW; (try dsimp only at hW); go_simp; try with_reducible rfl)
      simp only [Act.put, List.setIfInBounds_toArray, List.set_cons_zero, List.set_cons_succ]
      refine RG.takeF 12 (oi := ⟨some 23, _, _, _, _, _⟩) (v := ?_) rfl (by kernel_rfl) (by kernel_rfl) (by kernel_rfl) (by kernel_rfl) (fun _ _ _ h => h) (Or.inl ⟨by rfl, ?hyB12⟩) hS0 ?restB12
      case hyB12 => (intro W hW; (try dsimp only at hW); go_simp; try with_reducible rfl)
      simp only [Act.put, List.setIfInBounds_toArray, List.set_cons_zero, List.set_cons_succ]
      refine RG.takeF 13 (oi := ⟨some 24, _, _, _, _, _⟩) (v := ?_) rfl (by kernel_rfl) (by kernel_rfl) (by kernel_rfl) (by kernel_rfl) (fun _ _ _ h => h) (Or.inl ⟨by rfl, ?hyB13⟩) hS0 ?restB13
      case hyB13 => (intro W hW; (try dsimp only at hW); go_simp; try with_reducible rfl)
      simp only [Act.put, List.setIfInBounds_toArray, List.set_cons_zero, List.set_cons_succ]
      refine RG.takeF 14 (oi := ⟨some 25, _, _, _, _, _⟩) (v := ?_) rfl (by kernel_rfl) (by kernel_rfl) (by kernel_rfl) (by kernel_rfl) (fun _ _ _ h => h) (Or.inl ⟨by rfl, ?hyB14⟩) hS0 ?restB14
      case hyB14 => (intro W hW; (try dsimp only at hW); go_simp; try with_reducible rfl)
      simp only [Act.put, List.setIfInBounds_toArray, List.set_cons_zero, List.set_cons_succ]
      refine RG.takeF 15 (oi := ⟨some 26, _, _, _, _, _⟩) (v := ?_) rfl (by kernel_rfl) (by kernel_rfl) (by kernel_rfl) (by kernel_rfl) (fun _ _ _ h => h) (Or.inl ⟨by rfl, ?hyB15⟩) hS0 ?restB15
      case hyB15 => (intro W hW; (try dsimp only at hW); go_simp; try with_reducible rfl)
      simp only [Act.put, List.setIfInBounds_toArray, List.set_cons_zero, List.set_cons_succ]
      have hS1 : Below w3.heap.size w3 (wc.alloc (.cells #[] 197)) := hS0.alloc hS0.size _
      refine RG.oneF 1 (by kernel_rfl) (by decide) ?_
      refine RG.wpOp_plain rfl rfl fun K hK => ?_
      go_simp
      refine hK _ _ ⟨hS1, ?_⟩
      clear hK K
      try simp only [Act.put, List.setIfInBounds_toArray, List.set_cons_zero, List.set_cons_succ]
      have o1 : (wc.alloc (.cells #[] 197)).ownsRow wc.heap.size 197 6 (.slice (some ⟨wc.heap.size, 0, none⟩) 0 0) 0 [] := World.ownsRow_made wc #[] 0 (Nat.le_refl _) (Nat.zero_le _) rfl
      obtain ⟨v1, wd, r1, o2, g1, a1⟩ := run_append_pairs (wc.alloc (.cells #[] 197)) wc.heap.size _ [] o1 g 0 n cap (L.take n) (by rw [List.length_take, ← EM.out]; omega) (fun j y hy i u hi hu => by
        rw [Nat.zero_add]
        rw [List.getElem?_take] at hy
        split at hy
        · exact qc.out _ hS1 j y hy i u hi hu
        · cases hy) (by rw [List.length_take]; simp; omega) (by simp)
      refine RG.oneF 8 (by kernel_rfl) (by decide) ?_
      refine RG.wpOp_plain rfl rfl fun K hK => ?_
      refine RG.wp_append_run _ _ 72 72 rfl rfl rfl r1 ?_
      have hS2 : Below w3.heap.size w3 wd := hS1.grown g1 hS1.size (fun q hq => by cases hq; exact hsz)
      refine hK _ _ ⟨hS2, ?_⟩
      clear hK K
      try simp only [Act.put, List.setIfInBounds_toArray, List.set_cons_zero, List.set_cons_succ]
      have o2' : wd.ownsRow wc.heap.size 197 6 v1 (L.take n).length (flatP (L.take n)) := o2
      obtain ⟨v2, we, r2, o3, g2, a2⟩ := run_append_pairs wd wc.heap.size _ (L.take n) o2' g ((n + 1) * 6) (m - (n + 1)) (cap - (n + 1)) (L.drop (n + 1)) (by rw [List.length_drop, ← EM.out]) (fun j y hy i u hi hu => by
        rw [List.getElem?_drop] at hy
        rw [← Nat.add_mul]; exact qc.out _ hS2 (n + 1 + j) y hy i u hi hu) (by rw [List.length_take, List.length_drop, ← EM.out]; omega) (Nat.le_trans (by simp) g1.size)
      refine RG.oneF 16 (by kernel_rfl) (by decide) ?_
      refine RG.wpOp_plain rfl rfl fun K hK => ?_
      refine RG.wp_append_run _ _ 72 72 rfl rfl rfl r2 ?_
      have hnew : ∀ q, v1.ownBlock = some q → wc.heap.size ≤ q := fun q hq => (o2.lt q hq).1
      have hS3 : Below w3.heap.size w3 we := hS2.grown g2 hS2.size (fun q hq => Nat.le_trans hsz (hnew q hq))
      refine hK _ _ ⟨hS3, ?_⟩
      clear hK K
      try simp only [Act.put, List.setIfInBounds_toArray, List.set_cons_zero, List.set_cons_succ]
      refine RG.oneF 17 (by kernel_rfl) (by decide) ?_
      refine RG.wpOp_plain rfl rfl fun K hK => ?_
      go_simp
      refine hK _ _ ⟨hS3, ?_⟩
      clear hK K
      try simp only [Act.put, List.setIfInBounds_toArray, List.set_cons_zero, List.set_cons_succ]
      refine RG.oneF 18 (by kernel_rfl) (by decide) ?_
      refine RG.wpOp_plain rfl rfl fun K hK => ?_
      go_simp
      refine hK _ _ ⟨hS3, ?_⟩
      clear hK K
      try simp only [Act.put, List.setIfInBounds_toArray, List.set_cons_zero, List.set_cons_succ]
      obtain ⟨na, nn, nc, rfl⟩ : ∃ na nn nc, v2 = .slice na nn nc := by
        rcases o3.2 with ⟨h, _⟩ | ⟨g, cap, cur, h, _⟩
        · exact ⟨_, _, _, h⟩
        · exact ⟨_, _, _, h⟩
      have hcw : Chg (fun b => wc.heap.size ≤ b) wc we := by
        have e1 : Chg (fun b => wc.heap.size ≤ b) wc (wc.alloc (.cells #[] 197)) := (Chg.refl _ _).alloc _
        have e2 := e1.grown g1 (fun q hq h => by cases hq; exact Nat.le_refl _)
        exact e2.grown g2 (fun q hq h => hnew q hq)
      have HFIN := Lib.hid (HIC.out.replaced (L' := L.take n ++ L.drop (n + 1)) (World.ownsRow.mono o3 (Nat.zero_le _)) hcw (Nat.not_le.2 HIC.out.hd.lt))
      have HAT2 : Hid (∀ b, (Value.slice na nn nc).ownBlock = some b → wc.heap.size ≤ b) := Lib.hid (fun b hb => (o3.lt b hb).1)
      have HCW := Lib.hid hcw
      have hdd := HIC.out.hd.of (hcw.block _ HIC.out.hd.lt (Nat.not_le.2 HIC.out.hd.lt))
      have x0 := hdd.cell 0 _ rfl
      have f0 := hdd.frozen 0
      clear r1 r2 o1 o2 o2' o3 g1 g2 a1 a2 hdd
      refine RG.lastF (by kernel_rfl) (by kernel_rfl) ?_
      refine RG.wpOp_plain rfl rfl fun K hK => ?_
      go_simp
      refine hK _ _ ?_
      clear hK K
      try simp only [Act.put, List.setIfInBounds_toArray, List.set_cons_zero, List.set_cons_succ]
      clear q0 x0 f0 hS0 hS1 hS2 hS3 hcw
      go_wp2
      go_ret
      refine ⟨rfl, _, ⟨_, HFIN.out⟩, fun b hb => ?_, ?_⟩
      · rcases hb with hb | hb
        · exact .inl hb
        · exact .inr (Nat.le_trans HCC.out.size (HAT2.out b hb))
      · exact (HCC.out.trans HCW.out (fun b h1 h2 => absurd (Nat.le_trans HCC.out.size h2) (by omega))).setCell (fun _ => HIC.out.ownR) _
  · obtain ⟨rfl, rfl⟩ := HMIS.out hm
    go_wp2_with fail
    go_ret
    obtain ⟨rv, hri⟩ := HD.out.below HB3.out
    exact ⟨rfl, X, ⟨rv, hri⟩, fun b hb => .inl hb, Chg.ofBelow HB3.out⟩
end
end Go.Proofs.Ytmjfmfelbmbniaa
