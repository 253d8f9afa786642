/- The law ShapeOrders: two rows of keys lead to one shape just if they are the same row. -/
import Derived.Test.YtmjfmfelbmbniaaPaths
namespace Go.Proofs.Ytmjfmfelbmbniaa
open Go.RowKit Go.Maps HK ShM
set_option linter.unusedVariables false
set_option linter.unusedSimpArgs false
attribute [local go_sem ↓] run_max_two run_min_two
/-- What the inner function leaves: the way, if there is one; the tree has at most grown. -/
def Led (w0 : World) (tb cb : Nat) (D F : Int) (nm : List ByteArray) (T : List Sh) (ks : List ByteArray) (e : Ending) (w' : World) : Prop :=
  ∃ (r : Int) (ok : Bool) (T' : List Sh), e = .returned (.tuple #[.int .i64 r, .bool ok]) ∧ TBX (fun b => b = cb) w0 w' tb D F nm T' ∧ w'.cell? ⟨cb, 0, none⟩ = some (.pointer (some ⟨tb, 0, none⟩)) ∧ (∃ U, T' = T ++ U) ∧ (ok = true → ∃ n : Nat, r = n ∧ walkM T' 0 ks = some n)
set_option maxHeartbeats 4000000 in
set_option maxRecDepth 20000 in
theorem led_calls {w0 w : World} {tb cb : Nat} {D F : Int} {nm : List ByteArray} {T : List Sh} (kv : Value) (ks : List ByteArray) (hk : RdS w0 kv ks) (hkz : ∀ s ∈ ks, s.size ≤ maxLen) (h60 : ks.length ≤ 60)
    (hT : TBX (fun b => b = cb) w0 w tb D F nm T) (hc : w.cell? ⟨cb, 0, none⟩ = some (.pointer (some ⟨tb, 0, none⟩))) :
    Calls Try.prog 33 #[kv, .pointer (some ⟨cb, 0, none⟩)] w (Led w0 tb cb D F nm T ks) := by
  obtain ⟨a2, c2, rfl, q1, q2, hc2⟩ := hk
  have HC2 := Lib.hid hc2; have HT := Lib.hid hT; have HC := Lib.hid hc; have HKZ := Lib.hid hkz
  obtain ⟨n1, hn1⟩ : ∃ n, n = ks.length := ⟨_, rfl⟩
  have E1 := Lib.hid hn1
  rw [← hn1] at q1 h60 ⊢
  have hq2 : c2 ≤ 9223372036854775807 := q2
  clear hn1 q2 hc2 hT hc hkz
  go_enter Try.func33, Try.ntmps33
  go_wp2_with fail
  go_loopw [5, 12] (fun av i wr => ∃ (k a : Nat) (T' : List Sh), k ≤ n1 ∧ i = .int .i64 k ∧ av = .int .i64 a ∧ Hid (TBX (fun b => b = cb) w0 wr tb D F nm T' ∧ wr.cell? ⟨cb, 0, none⟩ = some (.pointer (some ⟨tb, 0, none⟩)) ∧ (∃ U, T' = T ++ U) ∧ walkM T' 0 (ks.take k) = some a)) (fun _ i _ => n1 - (intOf i).toNat)
  case atStart => exact ⟨0, 0, T, Nat.zero_le _, rfl, rfl, Lib.hid ⟨HT.out, HC.out, ⟨[], by simp⟩, rfl⟩⟩
  case round =>
    obtain ⟨k, a, T', hk, rfl, rfl, hA⟩ := hrel
    have hcell := hA.out.2.1
    by_cases hlt : k < n1
    · have hkl : k < ks.length := by rw [← E1.out]; exact hlt
      obtain ⟨b, off, rfl, hx⟩ := HC2.out k ks[k] (List.getElem?_eq_getElem _)
      have hx' := (hA.out.1.bel.cell (World.block_lt_of_cell? w0 _ hx)).trans hx
      have hlc := World.block_lt_of_cell? wr _ hcell
      have HAD := Lib.hid (hA.out.1.add (fun q hq => by rw [hq]; exact hlc) (a : Int) ks[k] (HKZ.out _ (List.getElem_mem _)))
      have HW := Lib.hid (@walk_add D F T' a (ks.take k) ks[k] hA.out.2.2.2)
      have HTK : Hid (ks.take (k + 1) = ks.take k ++ [ks[k]]) := Lib.hid (List.take_succ_eq_append_getElem hkl)
      have HE := Lib.hid (addM_ext D F T' (a : Int) ks[k])
      clear hx hlc
      generalize ks[k] = z at *
      obtain ⟨⟨r, ok, T2⟩, hadd⟩ : ∃ o, o = addM D F T' (a : Int) z := ⟨_, rfl⟩
      have HADD := Lib.hid hadd
      have HAD' := HAD.out
      rw [← hadd] at HAD'
      have HAE := Lib.hid HAD'
      clear HAD HAD' hadd
      cases ok with
      | false =>
        go_wp2_with (go_at_call 28; (with_reducible refine HAE.out.mono ?_); rintro e w6 ⟨rfl, h1⟩; have H1 := Lib.hid h1; clear h1)
        go_ret2
        obtain ⟨U, hU⟩ := HE.out
        obtain ⟨V, hV⟩ := hA.out.2.2.1
        rw [← HADD.out] at hU
        exact ⟨0, false, T2, rfl, H1.out.1, (World.cell?_of_block (w := wr) (H1.out.2.2 _ rfl)).trans hA.out.2.1, ⟨V ++ U, by dsimp only at hU; rw [hU, hV, List.append_assoc]⟩, fun h => by cases h⟩
      | true =>
        obtain ⟨n, hn, hwn⟩ := HW.out (by rw [← HADD.out])
        rw [← HADD.out] at hn hwn
        dsimp only at hn hwn
        subst hn
        have HWN := Lib.hid hwn
        clear hwn
        go_wp2_with (go_at_call 28; (with_reducible refine HAE.out.mono ?_); rintro e w6 ⟨rfl, h1⟩; have H1 := Lib.hid h1; clear h1)
        go_roundw
        case rel =>
          obtain ⟨U, hU⟩ := HE.out
          obtain ⟨V, hV⟩ := hA.out.2.2.1
          rw [← HADD.out] at hU
          exact ⟨k + 1, n, T2, by omega, by go_num, rfl, Lib.hid ⟨H1.out.1, (World.cell?_of_block (w := wr) (H1.out.2.2 _ rfl)).trans hA.out.2.1, ⟨V ++ U, by dsimp only at hU; rw [hU, hV, List.append_assoc]⟩, by rw [HTK.out]; exact HWN.out⟩⟩
        case measure => simp [intOf]; omega
    · obtain rfl : k = n1 := by omega
      have HA2 := Lib.hid hA.out
      go_wp2
      go_ret2
      exact ⟨a, true, T', rfl, HA2.out.1, HA2.out.2.1, HA2.out.2.2.1, fun _ => ⟨a, rfl, by have h1 := HA2.out.2.2.2; rwa [List.take_of_length_le (by rw [← E1.out]; exact Nat.le_refl _)] at h1⟩⟩
theorem RdT.empty (w : World) : RdT w (.slice none 0 0) [] := ⟨none, 0, rfl, Nat.le_refl _, Nat.zero_le _, Nat.zero_le _, fun j x h => by simp at h⟩
set_option maxHeartbeats 4000000 in
set_option maxRecDepth 20000 in
theorem orders_walk (deep fan : Int) (mv av bv : Value) (ms la lb : List ByteArray) (w : World) (hm : RdS w mv ms) (hms : ms.length ≤ 140737488355328) (hmz : ∀ s ∈ ms, s.size ≤ maxLen) (ha : RdS w av la) (haz : ∀ s ∈ la, s.size ≤ maxLen) (hb : RdS w bv lb) (hbz : ∀ s ∈ lb, s.size ≤ maxLen) :
    Calls Try.prog 4 #[.agg #[.int .i64 deep, .int .i64 fan, mv], av, bv] w fun e w' => e = .returned (.bool true) ∧ Below w.heap.size w w' := by
  have HM := Lib.hid hm; have HA := Lib.hid ha; have HB := Lib.hid hb; have HMS := Lib.hid hms; have HMZ := Lib.hid hmz; have HAZ := Lib.hid haz; have HBZ := Lib.hid hbz
  obtain ⟨a1, c1, rfl, m1, m2, _⟩ := hm
  obtain ⟨a2, c2, rfl, q1, q2, _⟩ := ha
  obtain ⟨a3, c3, rfl, r1, r2, _⟩ := hb
  clear hms hmz haz hbz m1 m2
  obtain ⟨n1, hn1⟩ : ∃ n, n = la.length := ⟨_, rfl⟩
  obtain ⟨n2, hn2⟩ : ∃ n, n = lb.length := ⟨_, rfl⟩
  have E1 := Lib.hid hn1; have E2 := Lib.hid hn2
  rw [← hn1] at q1 ⊢
  rw [← hn2] at r1 ⊢
  have hq2 : c2 ≤ 9223372036854775807 := q2
  have hr2 : c3 ≤ 9223372036854775807 := r2
  clear hn1 hn2 q2 r2
  have hbl := Blk.new w [.int .i64 deep, .int .i64 fan, .slice a1 ms.length c1] 24
  have hB1 : Below w.heap.size w (w.alloc (.cells #[.int .i64 deep, .int .i64 fan, .slice a1 ms.length c1] 24)) := (Below.refl _ _).alloc (Nat.le_refl _) _
  have HBL := Lib.hid hbl; have HB1 := Lib.hid hB1
  clear hbl hB1
  go_enter Try.func4, Try.ntmps4
  go_wp2_with fail
  generalize w.alloc (.cells #[.int .i64 deep, .int .i64 fan, .slice a1 ms.length c1] 24) = w1 at *
  refine (alive_calls _).mono ?_
  rintro e w2 ⟨rfl, hb⟩
  have hbl := HBL.out.of (hb.block _ HBL.out.lt)
  have HBL2 := Lib.hid hbl; have HB2 := Lib.hid (HB1.out.trans (hb.mono HB1.out.size))
  have x0 := hbl.cell 0 _ rfl; have x1 := hbl.cell 1 _ rfl; have x2 := hbl.cell 2 _ rfl
  clear hb hbl
  go_wp2_with fail
  refine (great_calls deep fan _ _ ms [] w2 (HM.out.below HB2.out (Nat.le_refl _)) HMS.out (RdT.empty _)).mono ?_
  rintro e w3 ⟨g, rfl, hg, hb⟩
  have hbl := HBL2.out.of (hb.block _ HBL2.out.lt)
  have HBL3 := Lib.hid hbl
  have HB4 := Lib.hid (HB2.out.trans (hb.mono HB2.out.size)); have HG := Lib.hid hg
  clear x0 x1 x2
  clear hb hbl hg
  by_cases hg1 : g = true
  · subst hg1
    go_wp2
    go_ret
    exact ⟨rfl, HB4.out⟩
  have hg2 : g = false := by cases g <;> simp_all
  subst hg2
  clear hg1
  by_cases h1 : 60 < n1
  · have h1' : (60 : Int) < (n1 : Int) := by omega
    go_wp2
    go_ret
    exact ⟨rfl, HB4.out⟩
  have h1' : decide ((60 : Int) < (n1 : Int)) = false := decide_eq_false (by omega)
  by_cases h2 : 60 < n2
  · have h2' : (60 : Int) < (n2 : Int) := by omega
    clear h1
    go_wp2
    go_ret
    exact ⟨rfl, HB4.out⟩
  have h2' : decide ((60 : Int) < (n2 : Int)) = false := decide_eq_false (by omega)
  have hn1 : n1 ≤ 60 := by omega
  have hn2 : n2 ≤ 60 := by omega
  clear h1 h2
  have HK0 := Lib.hid (HG.out (by first | rfl | trivial)).2
  have ha3 := HA.out.below HB4.out (Nat.le_refl _)
  have hb3 := HB.out.below HB4.out (Nat.le_refl _)
  have HA3 := Lib.hid ha3; have HB3 := Lib.hid hb3
  -- the two appends
  have hx1 : Below w3.heap.size w3 (w3.alloc (.cells #[] 9)) := (Below.refl _ _).alloc (Nat.le_refl _) _
  obtain ⟨v4, w4, r4, o4, g4, l4⟩ := run_append_strs (w3.alloc (.cells #[] 9)) w3.heap.size (.slice (some ⟨w3.heap.size, 0, none⟩) 0 0) (.slice a2 la.length c2) 0 [] la (World.ownsRow_made w3 #[] 0 (Nat.le_refl _) (Nat.zero_le _) rfl) (ha3.below hx1 (Nat.le_refl _)) (by omega) (by rw [← E1.out]; omega) (by simp)
  have hx4 : Below w3.heap.size w3 w4 := hx1.grown g4 hx1.size (fun q hq => by cases hq; exact Nat.le_refl _)
  rw [Nat.zero_add, List.nil_append] at o4
  obtain ⟨v5, w5, r5, o5, g5, l5⟩ := run_append_strs w4 w3.heap.size v4 (.slice a3 lb.length c3) la.length _ lb o4 (hb3.below hx4 (Nat.le_refl _)) (by rw [← E1.out]; omega) (by rw [← E2.out]; omega) hx4.size
  have hx5 : Below w3.heap.size w3 w5 := hx4.grown g5 hx4.size (fun q hq => (o4.lt q hq).1)
  rw [← E1.out] at r4; rw [← E2.out] at r5
  obtain ⟨ka, kc, hv5⟩ := ownsRow_form o5
  rw [← E1.out, ← E2.out] at hv5
  rw [← List.map_append] at o5
  have R4 := Lib.hid r4; have R5 := Lib.hid r5; have X5 := Lib.hid hx5; have O5 := Lib.hid o5
  clear ha3 hb3 hx1 r4 o4 g4 l4 hx4 r5 g5 l5 hx5 o5
  subst hv5
  go_upto_block 0 with (first | (at_builtin; refine RG.wpList_append_run rfl _ _ 22 22 rfl rfl rfl R4.out ?_) | (at_builtin; refine RG.wpList_append_run rfl _ _ 22 22 rfl rfl rfl R5.out ?_))
  have hlen : (la ++ lb).length = n1 + n2 := by rw [List.length_append, E1.out, E2.out]
  have HLN := Lib.hid hlen
  clear hlen
  go_cut [] (fun wc => wc = w5)
  case first =>
    go_wp2_with fail
    go_loop [40] (fun i => ∃ k : Nat, k ≤ n1 + n2 ∧ i = .int .i64 k) (fun i => n1 + n2 - (intOf i).toNat)
    case atStart => exact ⟨0, Nat.zero_le _, rfl⟩
    case round =>
      obtain ⟨k, hk, rfl⟩ := hrel
      by_cases hlt : k < n1 + n2
      · have hkl : k < (la ++ lb).length := by rw [HLN.out]; exact hlt
        obtain ⟨g, hg⟩ : ∃ g, ka = some ⟨g, 0, none⟩ := by
          rcases O5.out.2 with ⟨_, h0⟩ | ⟨g, _, _, h0, _⟩
          · rw [← E1.out, ← E2.out] at h0; omega
          · exact ⟨g, by simpa using (Value.slice.inj h0).1⟩
        subst hg
        have y1 := O5.out.cells (g := g) rfl k (.string (la ++ lb)[k]) (by rw [List.getElem?_map, List.getElem?_eq_getElem hkl]; rfl)
        rw [addr0] at y1
        generalize (la ++ lb)[k] = z at *
        by_cases hz : 1000 < z.size
        · have hz' : (1000 : Int) < (z.size : Int) := by omega
          go_wp2
          go_ret
          exact ⟨rfl, HB4.out.trans (X5.out.mono HB4.out.size)⟩
        · have hz' : decide ((1000 : Int) < (z.size : Int)) = false := decide_eq_false (by omega)
          go_wp2
          go_round
          case rel => exact ⟨k + 1, by omega, by go_num⟩
          case measure => simp [intOf]; omega
      · go_wp2
        go_meet
        case rel => rfl
  case rest =>
    subst hcut
    obtain ⟨D, hD⟩ : ∃ D, D = min (max deep 0) 64 := ⟨_, rfl⟩
    obtain ⟨F, hF⟩ : ∃ F, F = min (max fan 0) 64 := ⟨_, rfl⟩
    have ED := Lib.hid hD; have EF := Lib.hid hF
    clear hD hF
    have hB5 : Below w.heap.size w wc := HB4.out.trans (X5.out.mono HB4.out.size)
    have HB5 := Lib.hid hB5
    have hbl5 := HBL3.out.of (X5.out.block _ HBL3.out.lt)
    have x0 := hbl5.cell 0 _ rfl; have x1 := hbl5.cell 1 _ rfl; have x2 := hbl5.cell 2 _ rfl
    have HA5 := Lib.hid (HA.out.below hB5 (Nat.le_refl _))
    have HB6 := Lib.hid (HB.out.below hB5 (Nat.le_refl _))
    have HM5 := Lib.hid (HM.out.below hB5 (Nat.le_refl _))
    clear hB5 hbl5
    go_wp2_with fail
    refine (made_calls deep fan _ ms wc HM5.out HMZ.out HK0.out).mono ?_
    rintro e w6 ⟨tb, B, rfl, h1, h2, h3⟩
    rw [← ED.out, ← EF.out] at h1
    have TA : Hid (TB wc w6 tb D F (ms.take 64) T0) := Lib.hid ⟨B, h1, h2, h3⟩
    clear h1 h2 h3 B x0 x1 x2
    have hTX : TBX (fun b => b = w6.heap.size) wc (w6.alloc (.cells #[.pointer (some ⟨tb, 0, none⟩)] 28)) tb D F (ms.take 64) T0 := (TA.out.x.weak (fun b hb => .inr (by subst hb; exact Nat.le_refl _))).alloc _
    have hcb := (Blk.new w6 [.pointer (some ⟨tb, 0, none⟩)] 28).cell 0 _ rfl
    have LA := Lib.hid (led_calls _ la HA5.out HAZ.out (by rw [← E1.out]; exact hn1) hTX hcb)
    rw [← E1.out] at LA
    clear hTX hcb
    go_wp2_with fail
    refine LA.out.mono ?_
    rintro e w7 ⟨r1, ok1, T1, rfl, ht1, hc1, ⟨U1, hU1⟩, hw1⟩
    have LB := Lib.hid (led_calls _ lb HB6.out HBZ.out (by rw [← E2.out]; exact hn2) ht1 hc1)
    rw [← E2.out] at LB
    have HT1 := Lib.hid ht1; have HU1 := Lib.hid hU1; have HW1 := Lib.hid hw1
    clear ht1 hc1 hU1 hw1
    go_wp2_with fail
    refine LB.out.mono ?_
    rintro e w8 ⟨r2, ok2, T2, rfl, ht2, hc2, ⟨U2, hU2⟩, hw2⟩
    have HT2 := Lib.hid ht2; have HU2 := Lib.hid hU2; have HW2 := Lib.hid hw2
    clear ht2 hU2 hw2
    by_cases hok : ok1 = true ∧ ok2 = true
    · obtain ⟨rfl, rfl⟩ := hok
      obtain ⟨x, hx, hwx⟩ := HW1.out rfl
      obtain ⟨y, hy, hwy⟩ := HW2.out rfl
      subst hx; subst hy
      have hwx2 : walkM T2 0 la = some x := by rw [HU2.out]; exact walkM_ext U2 hwx
      have hwf := HT2.out.wf
      obtain ⟨hx1, hx2⟩ := hwf.walk0 hwx2
      obtain ⟨hy1, hy2⟩ := hwf.walk0 hwy
      have hxy : (x = y) ↔ la = lb := by
        constructor
        · intro h; rw [← hx2, ← hy2, h]
        · intro h; subst h; rw [hwx2] at hwy; exact Option.some.inj hwy
      have hxy2 : ((x : Int) == (y : Int)) = decide (la = lb) := by
        by_cases h : la = lb
        · rw [decide_eq_true h, hxy.2 h]; simp
        · rw [decide_eq_false h]; simp; intro h2; exact h (hxy.1 (by omega))
      have HS := Lib.hid (same_calls _ _ la lb w8 (HA5.out.below HT2.out.bel (Nat.le_refl _)) (HB6.out.below HT2.out.bel (Nat.le_refl _)))
      rw [← E1.out, ← E2.out] at HS
      have HMQ : Hid ((n1 = n2 ∧ ∀ m ∈ la, m ∈ lb) → marksM (ms.take 64) T2 (x : Int) = marksM (ms.take 64) T2 (y : Int)) := Lib.hid (by
        rintro ⟨h1, h2⟩
        unfold marksM
        rw [if_neg (by omega), if_neg (by omega), Int.toNat_natCast, Int.toNat_natCast]
        have e1 : ksOf T2 x = la := hx2
        have e2 : ksOf T2 y = lb := hy2
        rw [e1, e2, marksOf_same (same_set (hwf.nodup_at hwx2) (hwf.nodup_at hwy) (by rw [← E1.out, ← E2.out, h1]) h2)])
      have HKY : Hid (ksAt T2 y = lb) := Lib.hid hy2
      have HY1 := Lib.hid hy1
      clear hwx hwy hwx2 hwf hx1 hx2 hy1 hy2 hxy
      generalize hdd : decide (la = lb) = dd at hxy2
      have HDD := Lib.hid hdd
      rw [hdd] at HS
      clear hdd
      generalize hxi : (x : Int) = xi at *
      generalize hyi : (y : Int) = yi at *
      have HYI := Lib.hid hyi
      clear hxi hyi
      go_wp2_with (go_at_call 32; (with_reducible refine HS.out.mono ?_); rintro e w9 ⟨rfl, n9, rfl⟩)
      have hc9 : (w8.drewN n9).cell? ⟨w6.heap.size, 0, none⟩ = some (.pointer (some ⟨tb, 0, none⟩)) := hc2
      have HT9 : Hid (TB wc (w8.drewN n9) tb D F (ms.take 64) T2) := Lib.hid (HT2.out.toTB.drewN n9)
      have HA9 := Lib.hid (HA5.out.below HT9.out.bel (Nat.le_refl _))
      generalize w8.drewN n9 = w9 at *
      go_loop [15, 83] (fun al i => ∃ (k : Nat) (b : Bool), k ≤ n1 ∧ i = .int .i64 k ∧ al = .bool b ∧ Hid (b = true → n1 = n2 ∧ ∀ m ∈ la.take k, m ∈ lb)) (fun _ i => n1 - (intOf i).toNat)
      case atStart => exact ⟨0, _, Nat.zero_le _, rfl, rfl, Lib.hid (fun h => ⟨by simp at h; omega, by simp⟩)⟩
      case round =>
        obtain ⟨k, b, hk, rfl, rfl, hall⟩ := hrel
        by_cases hlt : k < n1
        · have hkl : k < la.length := by rw [← E1.out]; exact hlt
          obtain ⟨_, _, e9, _, _, hcell⟩ := HA9.out
          cases e9
          obtain ⟨bb, off, rfl, hx'⟩ := hcell k la[k] (List.getElem?_eq_getElem _)
          have hsl : (slotM T2 yi la[k]).isSome = decide (la[k] ∈ lb) := by
            unfold slotM
            rw [← HYI.out, if_neg (by have := HY1.out; omega), Int.toNat_natCast]
            have e2 : ksOf T2 y = lb := HKY.out
            rw [e2, slotOf_isSome]
          have hS := HT9.out.slot yi la[k] (HAZ.out _ (List.getElem_mem _))
          rw [hsl] at hS
          have HS := Lib.hid hS
          have HTK : Hid (la.take (k + 1) = la.take k ++ [la[k]]) := Lib.hid (List.take_succ_eq_append_getElem hkl)
          clear hS hsl hcell
          generalize la[k] = z at *
          generalize hdz : decide (z ∈ lb) = dz at *
          have HDZ := Lib.hid hdz
          clear hdz
          cases b with
          | false =>
            go_wp2_with (go_at_call 34; (with_reducible refine HS.out.mono ?_); rintro e w10 ⟨rfl, rfl⟩)
            go_round
            case rel => exact ⟨k + 1, false, by omega, by go_num, rfl, Lib.hid (fun h => by cases h)⟩
            case measure => simp [intOf]; omega
          | true =>
            go_wp2_with (go_at_call 34; (with_reducible refine HS.out.mono ?_); rintro e w10 ⟨rfl, rfl⟩)
            go_round
            case rel =>
              refine ⟨k + 1, dz, by omega, by go_num, rfl, Lib.hid (fun h => ?_)⟩
              obtain ⟨h1, h2⟩ := hall.out (by first | rfl | trivial)
              refine ⟨h1, fun m hm => ?_⟩
              rw [HTK.out] at hm
              rcases List.mem_append.1 hm with h3 | h3
              · exact h2 m h3
              · simp at h3; subst h3; have := HDZ.out; rw [h] at this; exact of_decide_eq_true this
            case measure => simp [intOf]; omega
        · obtain rfl : k = n1 := by omega
          have hM : Hid (b = true → marksM (ms.take 64) T2 xi = marksM (ms.take 64) T2 yi) := Lib.hid (fun h => by
            have h1 := hall.out h
            rw [List.take_of_length_le (by rw [← E1.out]; exact Nat.le_refl _)] at h1
            exact HMQ.out h1)
          have hq : w9.cell? ⟨w6.heap.size, 0, none⟩ = some (.pointer (some ⟨tb, 0, none⟩)) := hc9
          have HMX := Lib.hid (fun (n : Nat) => Calls.quiet_of_same (((HT9.out.below (Below.drewN (Below.refl w9.heap.size w9) n)).marks xi).mono fun _ _ h => ⟨h.1, h.2.symm⟩))
          have HMY := Lib.hid (fun (n : Nat) => Calls.quiet_of_same (((HT9.out.below (Below.drewN (Below.refl w9.heap.size w9) n)).marks yi).mono fun _ _ h => ⟨h.1, h.2.symm⟩))
          generalize marksM (ms.take 64) T2 xi = mx at *
          generalize marksM (ms.take 64) T2 yi = my at *
          cases b with
          | false =>
            go_upto_region 26 with (fail)
            go_quiet (fail)
            go_wp2
            go_ret
            exact ⟨rfl, HB5.out.trans (Below.drewN (HT9.out.bel.mono HB5.out.size) _)⟩
          | true =>
            have hmm : mx = my := hM.out (by first | rfl | trivial)
            subst hmm
            go_upto_region 26 with (fail)
            go_quiet ((go_at_call 31; first | with_reducible exact HMX.out _ | with_reducible exact HMY.out _ | trace_state))
            go_wp2
            go_ret
            exact ⟨rfl, HB5.out.trans (Below.drewN (HT9.out.bel.mono HB5.out.size) _)⟩
    · rcases Bool.eq_false_or_eq_true ok1 with h1 | h1
      · have h2 : ok2 = false := by cases ok2 <;> simp_all
        subst h1; subst h2
        go_wp2
        go_ret
        exact ⟨rfl, HB5.out.trans (HT2.out.bel.mono HB5.out.size)⟩
      · subst h1
        go_wp2
        go_ret
        exact ⟨rfl, HB5.out.trans (HT2.out.bel.mono HB5.out.size)⟩
end Go.Proofs.Ytmjfmfelbmbniaa
