/- The law ShapePaths: the same keys in the same order lead to the same shape. -/
import Derived.Test.YtmjfmfelbmbniaaStays
import Derived.Test.YtmjfmfelbmbniaaShP
namespace Go.Proofs.Ytmjfmfelbmbniaa
open Go.RowKit Go.Maps HK ShM
set_option linter.unusedVariables false
set_option linter.unusedSimpArgs false
attribute [local go_sem ↓] run_max_two run_min_two
/-- The way so far: where it has led, and the keys that were collected. -/
def PInv (w4 wc : World) (tb : Nat) (D F : Int) (nm : List ByteArray) (m : Nat) (atv gv : Value) : Prop :=
  ∃ (at_ : Nat) (got : List ByteArray) (T : List Sh), atv = .int .i64 at_ ∧ TBX (fun b => gv.ownBlock = some b) w4 wc tb D F nm T ∧ wc.ownsRow w4.heap.size 9 1 gv got.length (got.map .string) ∧ walkM T 0 got = some at_ ∧ got.length ≤ m ∧ ∀ s ∈ got, s.size ≤ maxLen
set_option maxHeartbeats 4000000 in
set_option maxRecDepth 20000 in
theorem paths_walk (deep fan : Int) (mv kv lv : Value) (ms ks : List ByteArray) (l : List (Int × ByteArray)) (w : World) (hm : RdS w mv ms) (hms : ms.length ≤ 140737488355328) (hmz : ∀ s ∈ ms, s.size ≤ maxLen) (hk : RdS w kv ks) (hkz : ∀ s ∈ ks, s.size ≤ maxLen) (hl : RdT w lv l) :
    Calls Try.prog 6 #[.agg #[.int .i64 deep, .int .i64 fan, mv], kv, lv] w fun e w' => e = .returned (.bool true) ∧ Below w.heap.size w w' := by
  have HM := Lib.hid hm; have HL := Lib.hid hl; have HK := Lib.hid hk; have HMS := Lib.hid hms; have HMZ := Lib.hid hmz; have HKZ := Lib.hid hkz
  obtain ⟨a1, c1, rfl, m1, m2, _⟩ := hm
  obtain ⟨a2, c2, rfl, q1, q2, _⟩ := hk
  obtain ⟨a3, c3, rfl, r1, r2, r3, _⟩ := hl
  clear hms hmz hkz m1 m2
  obtain ⟨n1, hn1⟩ : ∃ n, n = ks.length := ⟨_, rfl⟩
  have E1 := Lib.hid hn1
  rw [← hn1] at q1 ⊢
  have hq2 : c2 ≤ 9223372036854775807 := q2
  clear hn1 q2
  have hbl := Blk.new w [.int .i64 deep, .int .i64 fan, .slice a1 ms.length c1] 24
  have hB1 : Below w.heap.size w (w.alloc (.cells #[.int .i64 deep, .int .i64 fan, .slice a1 ms.length c1] 24)) := (Below.refl _ _).alloc (Nat.le_refl _) _
  have HBL := Lib.hid hbl; have HB1 := Lib.hid hB1
  clear hbl hB1
  go_enter Try.func6, Try.ntmps6
  go_wp2_with fail
  generalize w.alloc (.cells #[.int .i64 deep, .int .i64 fan, .slice a1 ms.length c1] 24) = w1 at *
  refine (alive_calls _).mono ?_
  rintro e w2 ⟨rfl, hb⟩
  have hbl := HBL.out.of (hb.block _ HBL.out.lt)
  have HBL2 := Lib.hid hbl; have HB2 := Lib.hid (HB1.out.trans (hb.mono HB1.out.size))
  have x0 := hbl.cell 0 _ rfl; have x1 := hbl.cell 1 _ rfl; have x2 := hbl.cell 2 _ rfl
  clear hb hbl
  go_wp2_with fail
  refine (great_calls deep fan _ _ ms l w2 (HM.out.below HB2.out (Nat.le_refl _)) HMS.out (HL.out.below HB2.out (Nat.le_refl _))).mono ?_
  rintro e w3 ⟨g, rfl, hg, hb⟩
  have hbl := HBL2.out.of (hb.block _ HBL2.out.lt)
  have HB4 := Lib.hid (HB2.out.trans (hb.mono HB2.out.size)); have HG := Lib.hid hg
  clear x0 x1 x2
  have x0 := hbl.cell 0 _ rfl; have x1 := hbl.cell 1 _ rfl; have x2 := hbl.cell 2 _ rfl
  clear hb hbl hg
  by_cases hend : g = true ∨ 70 < n1
  · by_cases hg1 : g = true
    · subst hg1
      go_wp2
      go_ret
      exact ⟨rfl, HB4.out⟩
    · have hg2 : g = false := by cases g <;> simp_all
      subst hg2
      have h70 : (70 : Int) < (n1 : Int) := by rcases hend with h | h; exact absurd h hg1; omega
      go_wp2
      go_ret
      exact ⟨rfl, HB4.out⟩
  · have hg2 : g = false := by cases g <;> simp_all
    have hn70 : n1 ≤ 70 := by omega
    have h70 : decide ((70 : Int) < (n1 : Int)) = false := decide_eq_false (by omega)
    subst hg2
    clear hend
    have HK0 := Lib.hid (HG.out (by first | rfl | trivial)).2
    have hl4 := HL.out.below HB4.out (Nat.le_refl _)
    have hk4 := HK.out.below HB4.out (Nat.le_refl _)
    obtain ⟨_, _, e2, _, _, _, hc2⟩ := hl4
    cases e2
    obtain ⟨_, _, e3, _, _, hc3⟩ := hk4
    rw [← E1.out] at e3
    cases e3
    have HC2 := Lib.hid hc2; have HC3 := Lib.hid hc3
    clear hc2 hc3
    obtain ⟨D, hD⟩ : ∃ D, D = min (max deep 0) 64 := ⟨_, rfl⟩
    obtain ⟨F, hF⟩ : ∃ F, F = min (max fan 0) 64 := ⟨_, rfl⟩
    have ED := Lib.hid hD; have EF := Lib.hid hF
    clear hD hF
    obtain ⟨n2, hn2⟩ : ∃ n, n = l.length := ⟨_, rfl⟩
    have E2 := Lib.hid hn2
    rw [← hn2] at r1 r3 ⊢
    clear hn2
    go_wp2_with fail
    refine (made_calls deep fan _ ms w3 (HM.out.below HB4.out (Nat.le_refl _)) HMZ.out HK0.out).mono ?_
    rintro e w5 ⟨tb, B, rfl, h1, h2, h3⟩
    rw [← ED.out, ← EF.out] at h1
    have TA : Hid (TB w3 w5 tb D F (ms.take 64) T0) := Lib.hid ⟨B, h1, h2, h3⟩
    clear h1 h2 h3 B x0 x1 x2
    go_upto_block 0 with (fail)
    go_cut [8, 10] (fun atv gv wc => PInv w3 wc tb D F (ms.take 64) n1 atv gv)
    case first =>
      go_wp2_with fail
      go_loopw [8, 10, 40] (fun atv gv i wr => ∃ k : Nat, k ≤ n1 ∧ i = .int .i64 k ∧ Hid (PInv w3 wr tb D F (ms.take 64) k atv gv)) (fun _ _ i _ => n1 - (intOf i).toNat)
      case atStart => exact ⟨0, Nat.zero_le _, rfl, Lib.hid ⟨0, [], T0, rfl, TA.out.x.weak (fun b hb => by cases hb), World.ownsRow_nil _ _ _ _, rfl, Nat.le_refl _, fun s hs => by cases hs⟩⟩
      case round =>
        obtain ⟨k, hk, rfl, hP⟩ := hrel
        obtain ⟨at_, got, T, hat, hT, hrow, hwk, hgl, hgz⟩ := hP.out
        subst hat
        obtain ⟨ga, gc, hgf⟩ := ownsRow_form hrow
        subst hgf
        by_cases hlt : k < n1
        · have hkl : k < ks.length := by rw [← E1.out]; exact hlt
          obtain ⟨b, off, rfl, hx⟩ := HC3.out k ks[k] (List.getElem?_eq_getElem _)
          have hx' := (hT.bel.cell (World.block_lt_of_cell? w3 _ hx)).trans hx
          have hz := HKZ.out ks[k] (List.getElem_mem _)
          have HZ := Lib.hid hz
          have hA := hT.add (fun q hq => (hrow.lt q hq).2) (at_ : Int) ks[k] hz
          have hW := @walk_add D F T at_ got ks[k] hwk
          have hE := addM_ext D F T (at_ : Int) ks[k]
          have HW := Lib.hid hW; have HE := Lib.hid hE
          generalize ks[k] = z at *
          obtain ⟨⟨r, ok, T'⟩, hadd⟩ : ∃ o, o = addM D F T (at_ : Int) z := ⟨_, rfl⟩
          rw [← hadd] at hA
          have HADD := Lib.hid hadd
          have HA := Lib.hid hA
          have HT := Lib.hid hT; have HROW := Lib.hid hrow; have HWK := Lib.hid hwk; have HGZ := Lib.hid hgz
          clear hx hz hA hW hE hadd hT hrow hwk hgz hP
          cases ok with
          | false =>
            go_wp2_with (go_at_call 28; (with_reducible refine HA.out.mono ?_); rintro e w6 ⟨rfl, h1⟩; have H1 := Lib.hid h1; clear h1)
            go_meet
            case rel =>
              obtain ⟨U, hU⟩ := HE.out
              rw [← HADD.out] at hU
              exact ⟨at_, got, T', rfl, H1.out.1, ownsRow_of HROW.out (fun g hg => H1.out.2.2 g hg), by dsimp only at hU; rw [hU]; exact walkM_ext U HWK.out, by omega, HGZ.out⟩
          | true =>
            obtain ⟨n, hn, hwn⟩ := HW.out (by rw [← HADD.out])
            rw [← HADD.out] at hn hwn
            dsimp only at hn hwn
            subst hn
            have HWN := Lib.hid hwn
            clear hwn
            obtain ⟨i0, hi0, iz0, iz1, iz2⟩ := info_parts info9
            go_wp2_with (first | (go_at_call 28; (with_reducible refine HA.out.mono ?_); rintro e w6 ⟨rfl, h1⟩; have H1 := Lib.hid h1; have HR6 := Lib.hid (ownsRow_of (w' := w6) HROW.out (fun g hg => h1.2.2 g hg)); clear h1) | (at_builtin; refine wpList_append_own_at _ rfl _ _ 22 rfl w3.heap.size 9 i0 (.string ByteArray.empty) 1 16 Try.underlying22 hi0 iz0 iz1 iz2 rfl (by decide) _ got.length _ rfl (HR6.out.alloc _) ⟨w6.heap.size, 0, none⟩ 1 1 [.string z] rfl rfl (cell_one_new _ _ _) (by simp [Value.oneCell']) (by unfold maxLen; omega) (by omega) (by have := H1.out.1.bel.size; simp; omega) ?_; intro v8 w8 hown8 hg8 _ hat8; have HO8 := Lib.hid hown8; have HG8 := Lib.hid hg8; have HAT8 := Lib.hid hat8; clear hown8 hg8 hat8))
            go_roundw
            case rel =>
              refine ⟨k + 1, by omega, by go_num, Lib.hid ⟨n, got ++ [z], T', rfl, ?_, by simpa using HO8.out, HWN.out, by simp; omega, fun s hs => ?_⟩⟩
              · exact (H1.out.1.alloc (.cells #[.string z] 9)).grow_row HG8.out (fun g hg => ⟨(HROW.out.lt g hg).1, hg⟩) HAT8.out (fun b hb => .inr hb)
              · rcases List.mem_append.1 hs with h | h
                · exact HGZ.out s h
                · simp at h; subst h; exact HZ.out
            case measure => simp [intOf]; omega
        · have HP := Lib.hid hP.out
          go_wp2
          go_meet
          case rel => 
            obtain rfl : k = n1 := by omega
            exact HP.out
    case rest =>
      obtain ⟨at_, got, T, hat, hT, hrow, hwk, hgl, hgz⟩ := hcut
      subst hat
      obtain ⟨ga, gc, hgf⟩ := ownsRow_form hrow
      subst hgf
      have HROW0 := Lib.hid hrow; have HWK := Lib.hid hwk; have HGZ := Lib.hid hgz; have HT0 := Lib.hid hT
      obtain ⟨m, hm⟩ : ∃ m, m = got.length := ⟨_, rfl⟩
      have EM := Lib.hid hm
      rw [← hm] at hgl
      clear hrow hwk hgz hT hm
      go_wp2_with fail
      rw [← EM.out]
      go_loopw [61] (fun i wr => ∃ k : Nat, k ≤ n2 ∧ i = .int .i64 k ∧ Hid (TBX (fun b => (Value.slice ga m gc).ownBlock = some b) w3 wr tb D F (ms.take 64) (play D F T (l.take k)) ∧ wr.ownsRow w3.heap.size 9 1 (.slice ga m gc) m (got.map .string))) (fun i _ => n2 - (intOf i).toNat)
      case atStart => exact ⟨0, Nat.zero_le _, rfl, Lib.hid ⟨by have := HT0.out; rw [← EM.out] at this; exact this, by have := HROW0.out; rw [← EM.out] at this; exact this⟩⟩
      case round =>
        obtain ⟨p, hp, rfl, hA2⟩ := hrel
        by_cases hlt3 : p < n2
        · have hkl : p < l.length := by rw [← E2.out]; exact hlt3
          obtain ⟨b, off, rfl, hx, hy, hz⟩ := HC2.out p l[p] (List.getElem?_eq_getElem _)
          have hx' := (hA2.out.1.bel.cell (World.block_lt_of_cell? w3 _ hx)).trans hx
          have hy' := (hA2.out.1.bel.cell (World.block_lt_of_cell? w3 _ hy)).trans hy
          have hr3 := hA2.out.2.alloc (.cells #[.int .i64 l[p].1, .string l[p].2] 31)
          have HAD := Lib.hid ((hA2.out.1.alloc (.cells #[.int .i64 l[p].1, .string l[p].2] 31)).add (fun q hq => (hr3.lt q hq).2) l[p].1 l[p].2 hz)
          have HS := Lib.hid (play_snoc D F T l p hkl)
          have HR3 := Lib.hid hr3
          clear hx hy hz hr3
          generalize l[p] = x at *
          go_wp2_with (go_at_call 28; (with_reducible refine HAD.out.mono ?_); rintro e w6 ⟨rfl, h1⟩; have H1 := Lib.hid h1; clear h1)
          go_roundw
          case rel => exact ⟨p + 1, by omega, by go_num, Lib.hid ⟨by rw [HS.out]; exact H1.out.1, ownsRow_of HR3.out (fun g hg => H1.out.2.2 g hg)⟩⟩
          case measure => simp [intOf]; omega
        · obtain rfl : p = n2 := by omega
          have hA4 : TBX (fun b => (Value.slice ga m gc).ownBlock = some b) w3 wr tb D F (ms.take 64) (play D F T l) ∧ wr.ownsRow w3.heap.size 9 1 (.slice ga m gc) m (got.map .string) := by have h0 := hA2.out; have e : l.take p = l := List.take_of_length_le (by rw [← E2.out]; exact Nat.le_refl _); rwa [e] at h0
          obtain ⟨U, hU⟩ := play_ext D F l T
          rw [hU] at hA4
          have hw2 : walkM (T ++ U) 0 got = some at_ := walkM_ext U HWK.out
          obtain ⟨T2, hT2⟩ : ∃ T2, T2 = T ++ U := ⟨_, rfl⟩
          rw [← hT2] at hA4 hw2
          have HW2 := Lib.hid hw2; have HA4 := Lib.hid hA4
          have hwf := hA4.1.wf
          have HWF := Lib.hid hwf
          clear hA2 hU hw2 hT2 hA4 hwf HWK HT0 HROW0
          go_wp2_with fail
          go_loopw [9, 17, 74] (fun lv av i wr' => ∃ (k a : Nat) (lst : Int), k ≤ m ∧ i = .int .i64 k ∧ av = .int .i64 a ∧ lv = .int .i64 lst ∧ Hid (walkM T2 0 (got.take k) = some a ∧ (lst = -1 ∨ ∃ q : Nat, lst = q ∧ (ksAt T2 q).length < k)) ∧ Hid (TBX (fun b => (Value.slice ga m gc).ownBlock = some b) w3 wr' tb D F (ms.take 64) T2 ∧ wr'.ownsRow w3.heap.size 9 1 (.slice ga m gc) m (got.map .string))) (fun _ _ i _ => m - (intOf i).toNat)
          case atStart => exact ⟨0, 0, -1, Nat.zero_le _, rfl, rfl, rfl, Lib.hid ⟨rfl, .inl rfl⟩, HA4⟩
          case round =>
            obtain ⟨k, a, lst, hk, rfl, rfl, rfl, hw, hA5⟩ := hrel
            by_cases hlt4 : k < m
            · have hkg : k < got.length := by rw [← EM.out]; exact hlt4
              obtain ⟨g, hg⟩ : ∃ g, ga = some ⟨g, 0, none⟩ := by
                rcases hA5.out.2.2 with ⟨_, h0⟩ | ⟨g, _, _, h0, _⟩
                · omega
                · cases h0; exact ⟨g, rfl⟩
              subst hg
              have y1 := hA5.out.2.cells (g := g) rfl k (.string got[k]) (by simp [hkg])
              rw [addr0] at y1
              obtain ⟨n, hn1, hn2⟩ := walkM_at HW2.out k hkg hw.out.1
              obtain ⟨ha1, ha2⟩ := HWF.out.walk0 hw.out.1
              obtain ⟨hb1, hb2⟩ := HWF.out.walk0 hn2
              have hadd := addM_there (fan := F) HWF.out ha1 hn1
              have hne : ((n : Int) == lst) = false := by
                rw [beq_eq_false_iff_ne]
                rintro rfl
                rcases hw.out.2 with h | ⟨q, h, hq⟩
                · omega
                · obtain rfl : n = q := by omega
                  rw [hb2, List.length_take] at hq
                  omega
              have hz := HGZ.out got[k] (List.getElem_mem _)
              have hAD := hA5.out.1.add (fun q hq => (hA5.out.2.lt q hq).2) (a : Int) got[k] hz
              rw [hadd] at hAD
              have HAD := Lib.hid hAD
              have HLA : Hid ((ksAt T2 a).length < k + 1) := Lib.hid (by rw [ha2, List.length_take]; omega)
              have HN2 := Lib.hid hn2
              clear hn1 hn2 ha1 ha2 hb1 hb2 hadd hz hAD
              generalize got[k] = z at *
              go_wp2_with (go_at_call 28; (with_reducible refine HAD.out.mono ?_); rintro e w6 ⟨rfl, h1⟩; have H1 := Lib.hid h1; clear h1)
              go_roundw
              case rel => exact ⟨k + 1, n, a, by omega, by go_num, rfl, rfl, Lib.hid ⟨HN2.out, .inr ⟨a, rfl, HLA.out⟩⟩, Lib.hid ⟨H1.out.1, ownsRow_of hA5.out.2 (fun g hg => H1.out.2.2 g hg)⟩⟩
              case measure => simp [intOf]; omega
            · obtain rfl : k = m := by omega
              have haa : a = at_ := by
                have h1 := hw.out.1
                rw [List.take_of_length_le (by rw [← EM.out]; exact Nat.le_refl _), HW2.out] at h1
                exact (Option.some.inj h1).symm
              subst haa
              obtain ⟨hlt5, hks⟩ := HWF.out.walk0 HW2.out
              have hkm : keysM T2 (a : Int) = got := by unfold keysM; rw [if_neg (by omega), Int.toNat_natCast]; exact hks
              have HKE := hA5.out.1.toTB.keys (a : Int)
              rw [hkm] at HKE
              have HKE' := Lib.hid HKE
              have HLT := Lib.hid hlt5; have HKS := Lib.hid hks
              clear HKE hkm hlt5 hks hw
              go_wp2_with (first | (go_at_call 30; (with_reducible refine HKE'.out.mono ?_); rintro e w7 ⟨xv, rfl, hnv, hT7⟩; have HNV := Lib.hid hnv; have HT7 := Lib.hid hT7; clear hnv hT7) | (go_at_call 32; refine (same_calls _ _ got got _ (RdS.of_row HNV.out.1) (RdS.of_row (ownsRow_of (w' := w7) (by rw [← EM.out]; exact hA5.out.2) (fun g hg => HNV.out.2.2.block g (hA5.out.2.lt g hg).2)))).mono ?_; rintro e w8 ⟨rfl, n8, rfl⟩; rw [decide_eq_true rfl]))
              have hrow7 : w7.ownsRow w3.heap.size 9 1 (.slice ga k gc) k (got.map .string) := ownsRow_of hA5.out.2 (fun g hg => HNV.out.2.2.block g (hA5.out.2.lt g hg).2)
              have HR7 := Lib.hid hrow7
              have HTD := Lib.hid (HT7.out.drewN n8)
              clear hrow7
              go_loop [108] (fun i => ∃ j : Nat, j ≤ k ∧ i = .int .i64 j) (fun i => k - (intOf i).toNat)
              case atStart => exact ⟨0, Nat.zero_le _, rfl⟩
              case round =>
                obtain ⟨j, hj, rfl⟩ := hrel
                by_cases hlt6 : j < k
                · have hjg : j < got.length := by rw [← EM.out]; exact hlt6
                  obtain ⟨g, hg⟩ : ∃ g, ga = some ⟨g, 0, none⟩ := by
                    rcases hA5.out.2.2 with ⟨_, h0⟩ | ⟨g, _, _, h0, _⟩
                    · omega
                    · cases h0; exact ⟨g, rfl⟩
                  subst hg
                  have y1 := HR7.out.cells (g := g) rfl j (.string got[j]) (by simp [hjg])
                  rw [addr0] at y1
                  have hsl : slotM T2 (a : Int) got[j] = some j := by
                    unfold slotM
                    rw [if_neg (by have := HLT.out; omega), Int.toNat_natCast]
                    have e : ksOf T2 a = got := HKS.out
                    rw [e]
                    exact slotOf_at (HWF.out.nodup_at HW2.out) (List.getElem?_eq_getElem hjg)
                  have hS := HTD.out.slot (a : Int) got[j] (HGZ.out got[j] (List.getElem_mem _))
                  rw [hsl] at hS
                  have HS := Lib.hid hS
                  clear hS hsl
                  generalize got[j] = z at *
                  go_wp2_with (go_at_call 34; (with_reducible refine HS.out.mono ?_); rintro e w9 ⟨rfl, rfl⟩)
                  go_round
                  case rel => exact ⟨j + 1, by omega, by go_num⟩
                  case measure => simp [intOf]; omega
                · go_wp2
                  go_ret
                  exact ⟨rfl, HB4.out.trans (HTD.out.bel.mono HB4.out.size)⟩
end Go.Proofs.Ytmjfmfelbmbniaa
