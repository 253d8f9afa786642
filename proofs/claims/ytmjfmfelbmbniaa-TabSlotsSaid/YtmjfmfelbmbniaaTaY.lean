/- Layer 14: the law TabSlots. -/
import Derived.Test.YtmjfmfelbmbniaaTaW
import Derived.Test.YtmjfmfelbmbniaaTaX
namespace Go.Proofs.Ytmjfmfelbmbniaa
open Go.RowKit Go.Maps HK ShM
set_option linter.unusedVariables false
set_option linter.unusedSimpArgs false
open RH
section
variable {w w' w0 : World} {q : Option Addr} {D F : Int} {T : List Sh} {N i tb : Nat} {mp nv : Value} {s : Tab} {tabs : List T3} {L : List (Nat × TypeId × List Value)} {ks : List ByteArray} {c : Nat × TypeId × List Value}
/-- Tables, and a row of strings beside them. -/
def TLS (w0 w : World) (nv : Value) (ks : List ByteArray) (q : Option Addr) (D F : Int) (T : List Sh) (N : Nat) (tabs : List T3) (L : List (Nat × TypeId × List Value)) : Prop := TL w0 w (fun b => nv.ownBlock = some b) q D F T N tabs L ∧ Strs w nv ks
theorem TLS.below (h : TLS w0 w nv ks q D F T N tabs L) (hb : Below w.heap.size w w') : TLS w0 w' nv ks q D F T N tabs L := ⟨h.1.below hb, h.2.below hb⟩
theorem TLS.blk (h : TLS w0 w nv ks q D F T N tabs L) (hc : c ∈ L) : Blk w c.1 c.2.1 c.2.2 := h.1.blk hc
theorem TLS.of (h : TL w0 w (fun _ => False) q D F T N tabs L) (hn : NewStrs w w' nv ks) : TLS w0 w' nv ks q D F T N tabs L :=
  ⟨h.turn (Chg.ofBelow (B := fun _ => False) hn.2.2) (fun b h => h.elim) (fun b h => h.elim) (fun b hb => .inr (hn.2.1 b hb)) (fun b hb => (hn.1.lt b hb).2), hn.1⟩
theorem TLS.put (h : TLS w0 w nv ks q D F T N tabs L) (hi : tabs[i]? = some (tb, mp, s)) (j : Int) (v : Val) : Calls Try.prog 68 #[.pointer (some ⟨tb, 0, none⟩), .int .i64 j, v.v] w fun e w' =>
    e = .returned (.bool (hasS s j)) ∧ TLS w0 w' nv ks q D F T N (tabs.set i (tb, mp, tputM s j v)) L := by
  refine (h.1.put hi j v).mono ?_
  rintro e w' ⟨rfl, h1, h2⟩
  exact ⟨rfl, h1, ownsRow_of h.2 (fun g hg => h2.block g (h.2.lt g hg).2 (fun h => h.2 hg))⟩
theorem TLS.cell {a : Option Addr} {n cap g k : Nat} {off : Nat} {y : ByteArray} (h : TLS w0 w (.slice a n cap) ks q D F T N tabs L) (hk : ks[k]? = some y) : ∃ g, a = some ⟨g, 0, none⟩ ∧ w.cell? ⟨g, k, none⟩ = some (.string y) := by
  obtain ⟨g, cap', e, hc⟩ := h.2.cell hk
  cases e
  exact ⟨g, rfl, hc⟩
end
theorem tl64 (W0 W : World) (h : Below W0.heap.size W0 W) : Calls Try.prog 61 #[.int .i64 64, .int .i64 64, .slice none 0 0] W fun e w' => ∃ sb, e = .returned (.pointer (some ⟨sb, 0, none⟩)) ∧ TL W0 w' (fun _ => False) (some ⟨sb, 0, none⟩) 64 64 T0 0 [] [] ∧ Below W.heap.size W w' := TL.newTree 64 64 (.slice none 0 0) [] W0 W h (RdS.none W) (fun s hs => by cases hs) (fun b hb => hb.elim)
set_option maxHeartbeats 16000000 in
set_option maxRecDepth 20000 in
theorem slots_walk (kv : Value) (l : List ByteArray) (n : Int) (x : Val) (w : World) (hk : RdS w kv l) (hkz : ∀ s ∈ l, s.size ≤ maxLen) (hx : x.s.size ≤ maxLen) : Calls Try.prog 11 #[kv, .int .i64 n, x.v] w fun e w' => e = .returned (.bool true) ∧ Below w.heap.size w w' := by
  have HI := Lib.hid (fun (n : Int) (W : World) => ofInt_calls n W)
  have HS := Lib.hid (fun (s : ByteArray) (W : World) => ofStr_calls s W)
  have HAL := Lib.hid (fun (W : World) => talive_calls W)
  have HK0 := Lib.hid hk
  obtain ⟨a2, c2, rfl, q1, q2, _⟩ := hk
  obtain ⟨n1, hn1⟩ : ∃ n, n = l.length := ⟨_, rfl⟩
  have E1 := Lib.hid hn1
  rw [← hn1] at q1 HK0 ⊢
  have hq2 : c2 ≤ 9223372036854775807 := q2
  obtain ⟨⟨o1, o2, o3⟩, ho⟩ : ∃ o, o = x.own := ⟨_, rfl⟩
  have HOWN := Lib.hid (fun (W : World) => own_calls x W)
  rw [← ho] at HOWN
  have HO := Lib.hid ho
  obtain ⟨x1, x2, x3⟩ := x
  have hx3 : x3.size ≤ 9223372036854775807 := hx
  clear hn1 q2 ho hx hkz
  have hbl := Blk.new w [.int .i64 x1, .int .i64 x2, .string x3] 57
  have hB1 : Below w.heap.size w (w.alloc (.cells #[.int .i64 x1, .int .i64 x2, .string x3] 57)) := (Below.refl _ _).alloc (Nat.le_refl _) _
  have HBL := Lib.hid hbl; have HB1 := Lib.hid hB1
  have HK1 := Lib.hid (HK0.out.below hB1 (Nat.le_refl _))
  clear hbl hB1 HK0
  go_enter Try.func11, Try.ntmps11
  go_upto_region 1 with fail
  obtain ⟨bx, hbx⟩ : ∃ b, b = w.heap.size := ⟨_, rfl⟩
  obtain ⟨w1, hw1⟩ : ∃ w1, w1 = w.alloc (.cells #[.int .i64 x1, .int .i64 x2, .string x3] 57) := ⟨_, rfl⟩
  rw [← hw1] at HBL HB1 HK1 ⊢
  rw [← hbx] at HBL ⊢
  clear hw1 hbx
  have hc2 : ∀ j s, l[j]? = some s → ∃ b off, a2 = some ⟨b, off, none⟩ ∧ w1.cell? ⟨b, off + j, none⟩ = some (.string s) := by
    obtain ⟨_, _, e, _, _, h⟩ := HK1.out
    cases e
    exact h
  have HC2 := Lib.hid hc2
  clear hc2 HK1
  go_upto_region 3 with (go_at_call 60; (with_reducible refine (HAL.out _).mono ?_); rintro e w2 ⟨rfl, hb⟩; have HB2 := Lib.hid hb; have hbl := HBL.out.of (hb.block _ HBL.out.lt); have y2 := hbl.cell 2 _ rfl; clear hbl hb)
  have HBE := Lib.hid (HB1.out.trans (HB2.out.mono HB1.out.size))
  by_cases hend : (60 : Int) < (n1 : Int) ∨ (1000 : Int) < (x3.size : Int)
  · by_cases h60 : (60 : Int) < (n1 : Int)
    · clear hend
      go_wp2
      go_ret
      exact ⟨rfl, HBE.out⟩
    · have hxs : (1000 : Int) < (x3.size : Int) := by omega
      have h60' : decide ((60 : Int) < (n1 : Int)) = false := decide_eq_false h60
      clear hend h60
      go_wp2
      go_ret
      exact ⟨rfl, HBE.out⟩
  have h60 : decide ((60 : Int) < (n1 : Int)) = false := decide_eq_false (by omega)
  have hxs : decide ((1000 : Int) < (x3.size : Int)) = false := decide_eq_false (by omega)
  have HN60 := Lib.hid (show n1 ≤ 60 by omega)
  clear hend
  go_upto_region 5 with fail
  clear h60 hxs y2
  go_wp2
  go_loop [8, 33] (fun _ i => ∃ k : Nat, k ≤ n1 ∧ i = .int .i64 k ∧ Hid (∀ s ∈ l.take k, s.size ≤ 1000)) (fun _ i => n1 - (intOf i).toNat)
  case atStart => exact ⟨0, Nat.zero_le _, rfl, Lib.hid (fun s hs => by simp at hs)⟩
  case round =>
    obtain ⟨k, hk, rfl, hall⟩ := hrel
    by_cases hlt : k < n1
    · have hkl : k < l.length := by rw [← E1.out]; exact hlt
      obtain ⟨b, off, rfl, hx⟩ := HC2.out k l[k] (List.getElem?_eq_getElem _)
      have hx' := (HB2.out.cell (World.block_lt_of_cell? w1 _ hx)).trans hx
      have HTK : Hid (l.take (k + 1) = l.take k ++ [l[k]]) := Lib.hid (List.take_succ_eq_append_getElem hkl)
      clear hx
      generalize l[k] = z at *
      by_cases hz : (1000 : Int) < (z.size : Int)
      · go_wp2
        go_ret
        exact ⟨rfl, HBE.out⟩
      · have hz' : decide ((1000 : Int) < (z.size : Int)) = false := decide_eq_false hz
        have HZ := Lib.hid hz
        clear hz
        go_wp2
        go_round
        case rel => exact ⟨k + 1, by omega, by go_num, Lib.hid (fun s hs => by
          rw [HTK.out] at hs
          rcases List.mem_append.1 hs with hs | hs
          · exact hall.out s hs
          · rw [List.mem_singleton] at hs; subst hs; have := HZ.out; omega)⟩
        case measure => simp [intOf]; omega
    · obtain rfl : n1 = k := by omega
      have HALL : Hid (∀ s ∈ l, s.size ≤ 1000) := Lib.hid (fun s hs => hall.out s (by rw [E1.out, List.take_length]; exact hs))
      have HNT := Lib.hid (tl64 w1 w2 HB2.out)
      clear hall
      go_upto_region 13 with (first
        | (go_at_call 61; (with_reducible refine HNT.out.mono ?_); rintro e w3 ⟨sb, rfl, h1, hb⟩; have D3 := Lib.hid (h1.hold ((HBL.out.of (HB2.out.block _ HBL.out.lt)).of (hb.block _ (Nat.lt_of_lt_of_le HBL.out.lt HB2.out.size))) HBL.out.lt (fun hz => hz.elim)); clear h1 hb; have HNW := Lib.hid (D3.out.new rfl))
        | (go_at_call 62; (with_reducible refine HNW.out.mono ?_); rintro e w4 ⟨tb, rfl, h1, _⟩; have D4 := Lib.hid h1; clear h1 HNW; have HNX := Lib.hid (D4.out.new rfl))
        | (go_at_call 62; (with_reducible refine HNX.out.mono ?_); rintro e w5 ⟨ub, rfl, h1, _⟩; have D5 := Lib.hid h1; clear h1 HNX))
      have D6 : Hid (TL w1 w5 (fun _ => False) (some ⟨sb, 0, none⟩) 64 64 T0 0 [(tb, .pointer none, ⟨[], [], false, 0⟩), (ub, .pointer none, ⟨[], [], false, 0⟩)] [(bx, 57, [.int .i64 x1, .int .i64 x2, .string x3])]) := D5
      clear D5 D4 D3
      go_wp2
      go_loopw [12, 13, 48] (fun _ _ ii wr => ∃ (k : Nat) (T : List Sh) (s : Tab), k ≤ n1 ∧ ii = .int .i64 k ∧ Hid (SlI T s k) ∧ Hid (TL w1 wr (fun _ => False) (some ⟨sb, 0, none⟩) 64 64 T (2 * k) [(tb, .pointer none, s), (ub, .pointer none, s)] [(bx, 57, [.int .i64 x1, .int .i64 x2, .string x3])])) (fun _ _ ii _ => n1 - (intOf ii).toNat)
      case atStart => exact ⟨0, T0, _, by omega, rfl, Lib.hid SlI.start, D6⟩
      case round =>
        obtain ⟨k, T, s, hk, rfl, hsl, hre⟩ := hrel
        by_cases hlt : k < n1
        · have hkl : k < l.length := by rw [← E1.out]; exact hlt
          obtain ⟨b, off, rfl, hx⟩ := HC2.out k l[k] (List.getElem?_eq_getElem _)
          have hx' := (hre.out.bel.cell (World.block_lt_of_cell? w1 _ hx)).trans hx
          have hzs := HALL.out l[k] (List.getElem_mem _)
          clear hx
          generalize l[k] = z at *
          have hn60 := HN60.out
          have HZM : Hid ((strV z).s.size ≤ maxLen) := Lib.hid (by have h : z.size ≤ 1000 := hzs; have h2 : (1000 : Nat) ≤ maxLen := by decide
                                                                   exact Nat.le_trans h h2)
          have HN1 : Hid (2 * k ≤ 100000) := Lib.hid (by omega)
          have HN2 : Hid (2 * k + 1 ≤ 100000) := Lib.hid (by omega)
          obtain ⟨f, s', T', e1, e2, hI⟩ := hsl.out.step (by omega) z hzs k
          have HE1 := Lib.hid e1; have HE2 := Lib.hid e2; have HSI := Lib.hid hI
          clear e1 e2 hI hzs hn60
          go_upto_region 17 with (first
            | (go_at_call 54; (with_reducible refine (HS.out _ _).mono ?_); rintro e wa ⟨rfl, hb⟩; have DA := Lib.hid (hre.out.below hb); clear hb)
            | (go_at_call 50; (with_reducible refine (HI.out _ _).mono ?_); rintro e wb ⟨rfl, hb⟩; have DB := Lib.hid (DA.out.below hb); clear hb; have HST := Lib.hid (DB.out.setTo (i := 0) rfl (strV z) (intV k) HZM.out HN1.out HE1.out rfl))
            | (go_at_call 63; (with_reducible refine HST.out.mono ?_); rintro e wc ⟨rfl, hh⟩; have DC := Lib.hid hh; clear hh HST))
          go_wp2_with (first
            | (go_at_call 54; (with_reducible refine (HS.out _ _).mono ?_); rintro e wd ⟨rfl, hb⟩; have DD := Lib.hid (DC.out.below hb); clear hb)
            | (go_at_call 50; (with_reducible refine (HI.out _ _).mono ?_); rintro e we ⟨rfl, hb⟩; have DE := Lib.hid (DD.out.below hb); clear hb; have HST := Lib.hid (DE.out.setTo (i := 1) rfl (strV z) (intV k) HZM.out HN2.out HE2.out rfl))
            | (go_at_call 63; (with_reducible refine HST.out.mono ?_); rintro e wf ⟨rfl, hh⟩; have DF := Lib.hid hh; clear hh HST))
          go_roundw
          case rel => exact ⟨k + 1, T', s', by omega, by go_num, HSI, DF⟩
          case measure => simp [intOf]; omega
        · obtain rfl : n1 = k := by omega
          have HM := Lib.hid (hre.out.mode (i := 0) rfl)
          rw [hsl.out.h] at HM
          have HM : Hid (Calls Try.prog 64 #[.pointer (some ⟨tb, 0, none⟩)] wr fun e w' => e = .returned (.int .i64 1) ∧ wr = w') := HM
          have H1 := Lib.hid (hre.out.shape (i := 0) rfl)
          rw [hsl.out.h] at H1
          have H1 : Hid (Calls Try.prog 65 #[.pointer (some ⟨tb, 0, none⟩)] wr fun e w' => e = .returned (.int .i64 (s.i : Int)) ∧ wr = w') := H1
          have H2 := Lib.hid (hre.out.shape (i := 1) rfl)
          rw [hsl.out.h] at H2
          have H2 : Hid (Calls Try.prog 65 #[.pointer (some ⟨ub, 0, none⟩)] wr fun e w' => e = .returned (.int .i64 (s.i : Int)) ∧ wr = w') := H2
          have HKY := Lib.hid (hre.out.treeKeys (s.i : Int))
          rw [hsl.out.kys] at HKY
          obtain ⟨ks, hks⟩ : ∃ ks, ks = ksOf T s.i := ⟨_, rfl⟩
          have HKS := Lib.hid hks
          rw [← hks] at HKY
          clear hks
          go_upto_region 22 with (first
            | (go_at_call 64; (with_reducible refine HM.out.mono ?_); rintro e w6 ⟨rfl, rfl⟩)
            | (go_at_call 65; (with_reducible refine H1.out.mono ?_); rintro e w6 ⟨rfl, rfl⟩)
            | (go_at_call 65; (with_reducible refine H2.out.mono ?_); rintro e w6 ⟨rfl, rfl⟩)
            | (go_at_call 30; (with_reducible refine HKY.out.mono ?_); rintro e w7 ⟨nv, rfl, hn⟩; have DN := Lib.hid (TLS.of hre.out hn); clear hn))
          obtain ⟨a3, c3, hnv, r1, r2⟩ := DN.out.2.form
          obtain ⟨n2, hn2⟩ : ∃ n, n = ks.length := ⟨_, rfl⟩
          have E2 := Lib.hid hn2
          rw [← hn2] at hnv r1
          subst hnv
          clear hn2 HM H1 H2 HKY hre
          go_wp2
          go_loopw [15, 16, 17, 18, 82] (fun _ _ _ _ ii wr => ∃ k : Nat, k ≤ n2 ∧ ii = .int .i64 k ∧ Hid (TLS w1 wr (.slice a3 n2 c3) ks (some ⟨sb, 0, none⟩) 64 64 T (2 * n1) [(tb, .pointer none, s), (ub, .pointer none, s)] [(bx, 57, [.int .i64 x1, .int .i64 x2, .string x3])])) (fun _ _ _ _ ii _ => n2 - (intOf ii).toNat)
          case atStart => exact ⟨0, by omega, rfl, DN⟩
          case round =>
            obtain ⟨k, hk2, rfl, hrn⟩ := hrel
            by_cases hlt2 : k < n2
            · have hkl : k < ks.length := by rw [← E2.out]; exact hlt2
              have hky : (ksOf T s.i)[k]? = some ks[k] := by rw [← HKS.out]; exact List.getElem?_eq_getElem _
              obtain ⟨g, rfl, hx'⟩ := hrn.out.cell (k := k) (y := ks[k]) (g := 0) (off := 0) (List.getElem?_eq_getElem _)
              have hzs := hsl.out.sz ks[k] (List.mem_of_getElem? hky)
              have hsm := hsl.out.slot hky
              have hat := hsl.out.at hky
              generalize ks[k] = y at *
              have HZM : Hid ((strV y).s.size ≤ maxLen) := Lib.hid (by have h : y.size ≤ 1000 := hzs; have h2 : (1000 : Nat) ≤ maxLen := by decide
                                                                       exact Nat.le_trans h h2)
              have HSH := Lib.hid (fun (W : World) (h : TLS w1 W (.slice (some ⟨g, 0, none⟩) n2 c3) ks (some ⟨sb, 0, none⟩) 64 64 T (2 * n1) [(tb, .pointer none, s), (ub, .pointer none, s)] [(bx, 57, [.int .i64 x1, .int .i64 x2, .string x3])]) => h.1.shape (i := 0) rfl)
              rw [hsl.out.h] at HSH
              have HSH : Hid (∀ W, TLS w1 W (.slice (some ⟨g, 0, none⟩) n2 c3) ks (some ⟨sb, 0, none⟩) 64 64 T (2 * n1) [(tb, .pointer none, s), (ub, .pointer none, s)] [(bx, 57, [.int .i64 x1, .int .i64 x2, .string x3])] → Calls Try.prog 65 #[.pointer (some ⟨tb, 0, none⟩)] W fun e w' => e = .returned (.int .i64 (s.i : Int)) ∧ W = w') := HSH
              have HSL := Lib.hid (hrn.out.1.treeSlot (s.i : Int) y HZM.out)
              rw [hsm] at HSL
              have HSL : Hid (Calls Try.prog 34 #[.pointer (some ⟨sb, 0, none⟩), .int .i64 (s.i : Int), .string y] wr fun e w' => e = .returned (.tuple #[.int .i64 k, .bool true]) ∧ wr = w') := HSL
              have HAT := Lib.hid (hrn.out.1.slotAt (i := 0) rfl (k : Int))
              rw [hat] at HAT
              have HN1 : Hid (2 * n1 ≤ 100000) := Lib.hid (by have := HN60.out; omega)
              have HGT := Lib.hid (fun (W : World) (h : TLS w1 W (.slice (some ⟨g, 0, none⟩) n2 c3) ks (some ⟨sb, 0, none⟩) 64 64 T (2 * n1) [(tb, .pointer none, s), (ub, .pointer none, s)] [(bx, 57, [.int .i64 x1, .int .i64 x2, .string x3])]) => h.1.get (i := 0) rfl (strV y) HZM.out HN1.out)
              clear hky hzs hsm hat
              obtain ⟨⟨g1, g2, g3⟩, hg⟩ : ∃ v, v = tgetM s (strV y) := ⟨_, rfl⟩
              rw [← hg] at HAT HGT
              clear hg
              go_wp2_with (first
                | (go_at_call 65; (with_reducible refine (HSH.out _ hrn.out).mono ?_); rintro e w8 ⟨rfl, rfl⟩)
                | (go_at_call 34; (with_reducible refine HSL.out.mono ?_); rintro e w8 ⟨rfl, rfl⟩)
                | (go_at_call 66; (with_reducible refine HAT.out.mono ?_); rintro e w9 ⟨rfl, hb⟩; have DG := Lib.hid (hrn.out.below hb); clear hb)
                | (go_at_call 54; (with_reducible refine (HS.out _ _).mono ?_); rintro e wh ⟨rfl, hb⟩; have DH := Lib.hid (DG.out.below hb); clear hb; have HG := Lib.hid (HGT.out _ DH.out))
                | (go_at_call 67; (with_reducible refine HG.out.mono ?_); rintro e wi ⟨rfl, hb⟩; have DI := Lib.hid (DH.out.below hb); clear hb))
              go_roundw
              case rel => exact ⟨k + 1, by omega, by go_num, DI⟩
              case measure => simp [intOf]; omega
            · obtain rfl : n2 = k := by omega
              have HPT := Lib.hid (hrn.out.put (i := 0) rfl n ⟨x1, x2, x3⟩)
              have hbk := hrn.out.blk (c := (bx, 57, [.int .i64 x1, .int .i64 x2, .string x3])) (by simp)
              have z0 := hbk.cell 0 _ rfl
              have z1 := hbk.cell 1 _ rfl
              have z2 := hbk.cell 2 _ rfl
              clear hbk
              have hhas := hsl.out.has n
              rw [← HKS.out, ← E2.out] at hhas
              rw [hhas] at HPT
              clear hhas
              by_cases hin : 0 ≤ n ∧ n < (n2 : Int)
              · obtain ⟨j, rfl⟩ : ∃ j : Nat, n = (j : Int) := ⟨n.toNat, by omega⟩
                have hj2 : j < n2 := by omega
                have hjl : j < ks.length := by rw [← E2.out]; exact hj2
                have hky : (ksOf T s.i)[j]? = some ks[j] := by rw [← HKS.out]; exact List.getElem?_eq_getElem _
                have hkj : ks[j]? = some ks[j] := List.getElem?_eq_getElem _
                obtain ⟨g, rfl, _⟩ := hrn.out.cell (k := j) (y := ks[j]) (g := 0) (off := 0) hkj
                have hpg := hsl.out.put hky ⟨x1, x2, x3⟩
                have hzs := hsl.out.sz ks[j] (List.mem_of_getElem? hky)
                have HKJ := Lib.hid hkj
                clear hkj
                generalize ks[j] = y at *
                have HZM : Hid ((strV y).s.size ≤ maxLen) := Lib.hid (by have h : y.size ≤ 1000 := hzs; have h2 : (1000 : Nat) ≤ maxLen := by decide
                                                                         exact Nat.le_trans h h2)
                have HN1 : Hid (2 * n1 ≤ 100000) := Lib.hid (by have := HN60.out; omega)
                have hok : (decide ((0 : Int) ≤ (j : Int)) && decide ((j : Int) < (n2 : Int))) = true := by rw [decide_eq_true (by omega), decide_eq_true (by omega)]; rfl
                rw [hok] at HPT
                clear hok hin hzs hky
                have j0 : (0 : Int) ≤ (j : Int) := by omega
                have j1 : (j : Int) < (n2 : Int) := by omega
                rw [← HO.out] at hpg
                obtain ⟨s9, hs9⟩ : ∃ s9, s9 = tputM s j ⟨x1, x2, x3⟩ := ⟨_, rfl⟩
                rw [← hs9] at HPT hpg
                clear hs9
                have HPG := Lib.hid hpg
                clear hpg
                go_upto_region 32 with (go_at_call 68; (with_reducible refine HPT.out.mono ?_); rintro e wp ⟨rfl, hh⟩; have DP := Lib.hid hh; clear hh z0 z1 z2)
                have DP : Hid (TLS w1 wp (.slice (some ⟨g, 0, none⟩) n2 c3) ks (some ⟨sb, 0, none⟩) 64 64 T (2 * n1) [(tb, .pointer none, s9), (ub, .pointer none, s)] [(bx, 57, [.int .i64 x1, .int .i64 x2, .string x3])]) := DP
                have HGT := Lib.hid (fun (W : World) (h : TLS w1 W (.slice (some ⟨g, 0, none⟩) n2 c3) ks (some ⟨sb, 0, none⟩) 64 64 T (2 * n1) [(tb, .pointer none, s9), (ub, .pointer none, s)] [(bx, 57, [.int .i64 x1, .int .i64 x2, .string x3])]) => h.1.get (i := 0) rfl (strV y) HZM.out HN1.out)
                rw [HPG.out.1] at HGT
                have HATP := Lib.hid (fun (W : World) (h : TLS w1 W (.slice (some ⟨g, 0, none⟩) n2 c3) ks (some ⟨sb, 0, none⟩) 64 64 T (2 * n1) [(tb, .pointer none, s9), (ub, .pointer none, s)] [(bx, 57, [.int .i64 x1, .int .i64 x2, .string x3])]) => h.1.slotAt (i := 0) rfl (j : Int))
                rw [HPG.out.2] at HATP
                have HCEL := Lib.hid (fun (W : World) (h : TLS w1 W (.slice (some ⟨g, 0, none⟩) n2 c3) ks (some ⟨sb, 0, none⟩) 64 64 T (2 * n1) [(tb, .pointer none, s9), (ub, .pointer none, s)] [(bx, 57, [.int .i64 x1, .int .i64 x2, .string x3])]) => show W.cell? ⟨g, j, none⟩ = some (.string y) from by
                  obtain ⟨g', e, hc⟩ := h.cell (g := 0) (off := 0) HKJ.out
                  cases e
                  exact hc)
                have BLp : Below wp.heap.size wp ({ wp with drawn := wp.drawn + 1 } : World) := ⟨rfl, rfl, rfl, Nat.le_refl _, fun _ _ => rfl⟩
                have Dp := Lib.hid (DP.out.below BLp)
                refine wp_region_held (S := fun W => Blk W (bx) 57 [.int .i64 x1, .int .i64 x2, .string x3] ∧ (W.cell? ⟨g, j, none⟩ = some (.string y)) ∧ True) (by kernel_rfl) ?_
                generalize ({ wp with drawn := wp.drawn + 1 } : World) = wp at BLp Dp ⊢
                have hSp : (fun W : World => Blk W (bx) 57 [.int .i64 x1, .int .i64 x2, .string x3] ∧ (W.cell? ⟨g, j, none⟩ = some (.string y)) ∧ True) wp := ⟨Dp.out.blk (c := (bx, 57, [.int .i64 x1, .int .i64 x2, .string x3])) (by simp), HCEL.out _ Dp.out, trivial⟩
                have boxp0 : ∀ W, (Blk W (bx) 57 [.int .i64 x1, .int .i64 x2, .string x3] ∧ (W.cell? ⟨g, j, none⟩ = some (.string y)) ∧ True) → W.cell? ⟨bx, 0, none⟩ = some (.int .i64 x1) := fun W hW => hW.1.cell 0 _ rfl
                have boxp1 : ∀ W, (Blk W (bx) 57 [.int .i64 x1, .int .i64 x2, .string x3] ∧ (W.cell? ⟨g, j, none⟩ = some (.string y)) ∧ True) → W.cell? ⟨bx, 1, none⟩ = some (.int .i64 x2) := fun W hW => hW.1.cell 1 _ rfl
                have boxp2 : ∀ W, (Blk W (bx) 57 [.int .i64 x1, .int .i64 x2, .string x3] ∧ (W.cell? ⟨g, j, none⟩ = some (.string y)) ∧ True) → W.cell? ⟨bx, 2, none⟩ = some (.string x3) := fun W hW => hW.1.cell 2 _ rfl
                have rowp : ∀ W, (Blk W (bx) 57 [.int .i64 x1, .int .i64 x2, .string x3] ∧ (W.cell? ⟨g, j, none⟩ = some (.string y)) ∧ True) → W.cell? ⟨g, j, none⟩ = some (.string y) := fun W hW => hW.2.1
                refine takeH 0 (oi := ⟨some 127, _, _, _, _, _⟩) (v := ?_) rfl (by kernel_rfl) (by kernel_rfl) (by kernel_rfl) (fun _ _ _ h => h) (Or.inl ⟨by rfl, ?hyp1⟩) hSp ?restp1
                case hyp1 => (intro W hW; (try dsimp only at hW); go_simp; try with_reducible rfl)
                try simp only [Act.put, List.setIfInBounds_toArray, List.set_cons_zero, List.set_cons_succ]
                refine takeH 1 (oi := ⟨some 128, _, _, _, _, _⟩) (v := ?_) rfl (by kernel_rfl) (by kernel_rfl) (by kernel_rfl) (fun _ _ _ h => h) (Or.inl ⟨by rfl, ?hyp2⟩) hSp ?restp2
                case hyp2 => (intro W hW; (try dsimp only at hW); go_simp; try with_reducible rfl)
                try simp only [Act.put, List.setIfInBounds_toArray, List.set_cons_zero, List.set_cons_succ]
                refine takeH 2 (oi := ⟨some 129, _, _, _, _, _⟩) (v := ?_) rfl (by kernel_rfl) (by kernel_rfl) (by kernel_rfl) (fun _ _ _ h => h) (Or.inl ⟨by rfl, ?hyp3⟩) hSp ?restp3
                case hyp3 => (intro W hW; (try dsimp only at hW); go_simp; try with_reducible rfl)
                try simp only [Act.put, List.setIfInBounds_toArray, List.set_cons_zero, List.set_cons_succ]
                refine takeH 3 (oi := ⟨some 130, _, _, _, _, _⟩) (v := ?_) rfl (by kernel_rfl) (by kernel_rfl) (by kernel_rfl) (fun _ _ _ h => h) (Or.inl ⟨by rfl, ?hyp4⟩) hSp ?restp4
                case hyp4 => (intro W hW; (try dsimp only at hW); go_simp; try with_reducible rfl)
                try simp only [Act.put, List.setIfInBounds_toArray, List.set_cons_zero, List.set_cons_succ]
                refine takeH 4 (oi := ⟨some 131, _, _, _, _, _⟩) (v := ?_) rfl (by kernel_rfl) (by kernel_rfl) (by kernel_rfl) (fun _ _ _ h => h) (Or.inl ⟨by rfl, ?hyp5⟩) hSp ?restp5
                case hyp5 => (intro W hW; (try dsimp only at hW); go_simp; try with_reducible rfl)
                try simp only [Act.put, List.setIfInBounds_toArray, List.set_cons_zero, List.set_cons_succ]
                refine takeH 5 (oi := ⟨some 132, _, _, _, _, _⟩) (v := ?_) rfl (by kernel_rfl) (by kernel_rfl) (by kernel_rfl) (fun _ _ _ h => h) (Or.inl ⟨by rfl, ?hyp6⟩) hSp ?restp6
                case hyp6 => (intro W hW; (try dsimp only at hW); go_simp; try with_reducible rfl)
                try simp only [Act.put, List.setIfInBounds_toArray, List.set_cons_zero, List.set_cons_succ]
                refine takeH 6 (oi := ⟨some 133, _, _, _, _, _⟩) (v := ?_) rfl (by kernel_rfl) (by kernel_rfl) (by kernel_rfl) (fun _ _ _ h => h) (Or.inl ⟨by rfl, ?hyp7⟩) hSp ?restp7
                case hyp7 => (intro W hW; (try dsimp only at hW); go_simp; try with_reducible rfl)
                try simp only [Act.put, List.setIfInBounds_toArray, List.set_cons_zero, List.set_cons_succ]
                refine takeH 7 (oi := ⟨some 134, _, _, _, _, _⟩) (v := ?_) rfl (by kernel_rfl) (by kernel_rfl) (by kernel_rfl) (fun _ _ _ h => h) (Or.inl ⟨by rfl, ?hyp8⟩) hSp ?restp8
                case hyp8 => (intro W hW; (try dsimp only at hW); go_simp; try with_reducible rfl)
                try simp only [Act.put, List.setIfInBounds_toArray, List.set_cons_zero, List.set_cons_succ]
                refine takeH 10 (oi := ⟨some 137, _, _, _, _, _⟩) (v := ?_) rfl (by kernel_rfl) (by kernel_rfl) (by kernel_rfl) (fun _ _ _ h => h) (Or.inl ⟨by rfl, ?hyp9⟩) hSp ?restp9
                case hyp9 => (intro W hW; (try dsimp only at hW); go_simp; try with_reducible rfl)
                try simp only [Act.put, List.setIfInBounds_toArray, List.set_cons_zero, List.set_cons_succ]
                refine one (i := 8) (by kernel_rfl) ?_
                refine wpOp_wanted rfl (by rfl) fun K hK => ?_
                go_simp
                with_reducible refine (HS.out _ _).mono ?_
                rintro e wp10 ⟨rfl, hb⟩
                have Dp10 := Lib.hid (Dp.out.below hb)
                clear hb
                have Sp10 : (fun W : World => Blk W (bx) 57 [.int .i64 x1, .int .i64 x2, .string x3] ∧ (W.cell? ⟨g, j, none⟩ = some (.string y)) ∧ True) wp10 := ⟨Dp10.out.blk (c := (bx, 57, [.int .i64 x1, .int .i64 x2, .string x3])) (by simp), HCEL.out _ Dp10.out, trivial⟩
                refine hK _ _ ⟨Sp10, ?_⟩
                clear hK K
                try simp only [Act.put, List.setIfInBounds_toArray, List.set_cons_zero, List.set_cons_succ]
                refine one (i := 9) (by kernel_rfl) ?_
                refine wpOp_wanted rfl (by rfl) fun K hK => ?_
                go_simp
                with_reducible refine (HGT.out _ Dp10.out).mono ?_
                rintro e wp11 ⟨rfl, hb⟩
                have Dp11 := Lib.hid (Dp10.out.below hb)
                clear hb
                have Sp11 : (fun W : World => Blk W (bx) 57 [.int .i64 x1, .int .i64 x2, .string x3] ∧ (W.cell? ⟨g, j, none⟩ = some (.string y)) ∧ True) wp11 := ⟨Dp11.out.blk (c := (bx, 57, [.int .i64 x1, .int .i64 x2, .string x3])) (by simp), HCEL.out _ Dp11.out, trivial⟩
                refine hK _ _ ⟨Sp11, ?_⟩
                clear hK K
                try simp only [Act.put, List.setIfInBounds_toArray, List.set_cons_zero, List.set_cons_succ]
                refine one (i := 11) (by kernel_rfl) ?_
                refine wpOp_wanted rfl (by rfl) fun K hK => ?_
                go_simp
                with_reducible refine (HOWN.out _).mono ?_
                rintro e wp12 ⟨rfl, hb⟩
                have Dp12 := Lib.hid (Dp11.out.below hb)
                clear hb
                have Sp12 : (fun W : World => Blk W (bx) 57 [.int .i64 x1, .int .i64 x2, .string x3] ∧ (W.cell? ⟨g, j, none⟩ = some (.string y)) ∧ True) wp12 := ⟨Dp12.out.blk (c := (bx, 57, [.int .i64 x1, .int .i64 x2, .string x3])) (by simp), HCEL.out _ Dp12.out, trivial⟩
                refine hK _ _ ⟨Sp12, ?_⟩
                clear hK K
                try simp only [Act.put, List.setIfInBounds_toArray, List.set_cons_zero, List.set_cons_succ]
                refine takeH 12 (oi := ⟨some 139, _, _, _, _, _⟩) (v := ?_) rfl (by kernel_rfl) (by kernel_rfl) (by kernel_rfl) (fun _ _ _ h => h) (Or.inl ⟨by rfl, ?hyp13⟩) Sp12 ?restp13
                case hyp13 => (intro W hW; (try dsimp only at hW); go_simp; try with_reducible rfl)
                try simp only [Act.put, List.setIfInBounds_toArray, List.set_cons_zero, List.set_cons_succ]
                refine takeH 13 (oi := ⟨some 140, _, _, _, _, _⟩) (v := ?_) rfl (by kernel_rfl) (by kernel_rfl) (by kernel_rfl) (fun _ _ _ h => h) (Or.inl ⟨by rfl, ?hyp14⟩) Sp12 ?restp14
                case hyp14 => (intro W hW; (try dsimp only at hW); go_simp; try with_reducible rfl)
                try simp only [Act.put, List.setIfInBounds_toArray, List.set_cons_zero, List.set_cons_succ]
                refine takeH 14 (oi := ⟨some 141, _, _, _, _, _⟩) (v := ?_) rfl (by kernel_rfl) (by kernel_rfl) (by kernel_rfl) (fun _ _ _ h => h) (Or.inl ⟨by rfl, ?hyp15⟩) Sp12 ?restp15
                case hyp15 => (intro W hW; (try dsimp only at hW); go_simp; try with_reducible rfl)
                try simp only [Act.put, List.setIfInBounds_toArray, List.set_cons_zero, List.set_cons_succ]
                refine takeH 15 (oi := ⟨some 142, _, _, _, _, _⟩) (v := ?_) rfl (by kernel_rfl) (by kernel_rfl) (by kernel_rfl) (fun _ _ _ h => h) (Or.inl ⟨by rfl, ?hyp16⟩) Sp12 ?restp16
                case hyp16 => (intro W hW; (try dsimp only at hW); go_simp; try with_reducible rfl)
                try simp only [Act.put, List.setIfInBounds_toArray, List.set_cons_zero, List.set_cons_succ]
                refine takeH 17 (oi := ⟨some 144, _, _, _, _, _⟩) (v := ?_) rfl (by kernel_rfl) (by kernel_rfl) (by kernel_rfl) (fun _ _ _ h => h) (Or.inl ⟨by rfl, ?hyp17⟩) Sp12 ?restp17
                case hyp17 => (intro W hW; (try dsimp only at hW); go_simp; try with_reducible rfl)
                try simp only [Act.put, List.setIfInBounds_toArray, List.set_cons_zero, List.set_cons_succ]
                refine one (i := 16) (by kernel_rfl) ?_
                refine wpOp_wanted rfl (by rfl) fun K hK => ?_
                go_simp
                with_reducible refine (HATP.out _ Dp12.out).mono ?_
                rintro e wp18 ⟨rfl, hb⟩
                have Dp18 := Lib.hid (Dp12.out.below hb)
                clear hb
                have Sp18 : (fun W : World => Blk W (bx) 57 [.int .i64 x1, .int .i64 x2, .string x3] ∧ (W.cell? ⟨g, j, none⟩ = some (.string y)) ∧ True) wp18 := ⟨Dp18.out.blk (c := (bx, 57, [.int .i64 x1, .int .i64 x2, .string x3])) (by simp), HCEL.out _ Dp18.out, trivial⟩
                refine hK _ _ ⟨Sp18, ?_⟩
                clear hK K
                try simp only [Act.put, List.setIfInBounds_toArray, List.set_cons_zero, List.set_cons_succ]
                refine one (i := 18) (by kernel_rfl) ?_
                refine wpOp_wanted rfl (by rfl) fun K hK => ?_
                go_simp
                with_reducible refine (HOWN.out _).mono ?_
                rintro e wp19 ⟨rfl, hb⟩
                have Dp19 := Lib.hid (Dp18.out.below hb)
                clear hb
                have Sp19 : (fun W : World => Blk W (bx) 57 [.int .i64 x1, .int .i64 x2, .string x3] ∧ (W.cell? ⟨g, j, none⟩ = some (.string y)) ∧ True) wp19 := ⟨Dp19.out.blk (c := (bx, 57, [.int .i64 x1, .int .i64 x2, .string x3])) (by simp), HCEL.out _ Dp19.out, trivial⟩
                refine hK _ _ ⟨Sp19, ?_⟩
                clear hK K
                try simp only [Act.put, List.setIfInBounds_toArray, List.set_cons_zero, List.set_cons_succ]
                refine takeH 19 (oi := ⟨some 146, _, _, _, _, _⟩) (v := ?_) rfl (by kernel_rfl) (by kernel_rfl) (by kernel_rfl) (fun _ _ _ h => h) (Or.inl ⟨by rfl, ?hyp20⟩) Sp19 ?restp20
                case hyp20 => (intro W hW; (try dsimp only at hW); go_simp; try with_reducible rfl)
                try simp only [Act.put, List.setIfInBounds_toArray, List.set_cons_zero, List.set_cons_succ]
                refine takeH 20 (oi := ⟨some 147, _, _, _, _, _⟩) (v := ?_) rfl (by kernel_rfl) (by kernel_rfl) (by kernel_rfl) (fun _ _ _ h => h) (Or.inl ⟨by rfl, ?hyp21⟩) Sp19 ?restp21
                case hyp21 => (intro W hW; (try dsimp only at hW); go_simp; try with_reducible rfl)
                try simp only [Act.put, List.setIfInBounds_toArray, List.set_cons_zero, List.set_cons_succ]
                refine takeH 21 (oi := ⟨some 148, _, _, _, _, _⟩) (v := ?_) rfl (by kernel_rfl) (by kernel_rfl) (by kernel_rfl) (fun _ _ _ h => h) (Or.inl ⟨by rfl, ?hyp22⟩) Sp19 ?restp22
                case hyp22 => (intro W hW; (try dsimp only at hW); go_simp; try with_reducible rfl)
                try simp only [Act.put, List.setIfInBounds_toArray, List.set_cons_zero, List.set_cons_succ]
                refine takeH 22 (oi := ⟨some 6, _, _, _, _, _⟩) (v := ?_) rfl (by kernel_rfl) (by kernel_rfl) (by kernel_rfl) (fun _ _ _ h => h) (Or.inl ⟨by rfl, ?hyp23⟩) Sp19 ?restp23
                case hyp23 => (intro W hW; (try dsimp only at hW); go_simp; try with_reducible rfl)
                try simp only [Act.put, List.setIfInBounds_toArray, List.set_cons_zero, List.set_cons_succ]
                refine wpAnyH_done (by kernel_rfl) ?_ _
                clear boxp0 boxp1 boxp2 rowp
                go_wp2
                go_ret
                exact ⟨rfl, HB1.out.trans (Dp19.out.1.bel.mono HB1.out.size)⟩
              · have hok : (decide ((0 : Int) ≤ n) && decide (n < (n2 : Int))) = false := by
                  by_cases h0 : 0 ≤ n
                  · rw [decide_eq_false (show ¬ n < (n2 : Int) from fun h => hin ⟨h0, h⟩), Bool.and_false]
                  · rw [decide_eq_false h0, Bool.false_and]
                rw [hok] at HPT
                clear hok
                by_cases h0 : 0 ≤ n
                · have h1 : (n2 : Int) ≤ n := by omega
                  have h0' : decide ((0 : Int) ≤ n) = true := decide_eq_true h0
                  have h1' : decide (n < (n2 : Int)) = false := decide_eq_false (by omega)
                  clear hin
                  go_upto_region 32 with (go_at_call 68; (with_reducible refine HPT.out.mono ?_); rintro e wp ⟨rfl, hh⟩; have DP := Lib.hid hh; clear hh z0 z1 z2)
                  have BLm : Below wp.heap.size wp ({ wp with drawn := wp.drawn + 1 } : World) := ⟨rfl, rfl, rfl, Nat.le_refl _, fun _ _ => rfl⟩
                  have Dm := Lib.hid (DP.out.below BLm)
                  refine wp_region_held (S := fun W => True) (by kernel_rfl) ?_
                  generalize ({ wp with drawn := wp.drawn + 1 } : World) = wm at BLm Dm ⊢
                  have hSm : (fun W : World => True) wm := trivial
                  refine takeH 0 (oi := ⟨some 127, _, _, _, _, _⟩) (v := ?_) rfl (by kernel_rfl) (by kernel_rfl) (by kernel_rfl) (fun _ _ _ h => h) (Or.inl ⟨by rfl, ?hym24⟩) hSm ?restm24
                  case hym24 => (intro W hW; (try dsimp only at hW); go_simp; try with_reducible rfl)
                  try simp only [Act.put, List.setIfInBounds_toArray, List.set_cons_zero, List.set_cons_succ]
                  refine takeH 1 (oi := ⟨some 128, _, _, _, _, _⟩) (v := ?_) rfl (by kernel_rfl) (by kernel_rfl) (by kernel_rfl) (fun _ _ _ h => h) (Or.inl ⟨by rfl, ?hym25⟩) hSm ?restm25
                  case hym25 => (intro W hW; (try dsimp only at hW); go_simp; try with_reducible rfl)
                  try simp only [Act.put, List.setIfInBounds_toArray, List.set_cons_zero, List.set_cons_succ]
                  refine takeH 2 (oi := ⟨some 129, _, _, _, _, _⟩) (v := ?_) rfl (by kernel_rfl) (by kernel_rfl) (by kernel_rfl) (fun _ _ _ h => h) (Or.inl ⟨by rfl, ?hym26⟩) hSm ?restm26
                  case hym26 => (intro W hW; (try dsimp only at hW); go_simp; try with_reducible rfl)
                  try simp only [Act.put, List.setIfInBounds_toArray, List.set_cons_zero, List.set_cons_succ]
                  refine takeH 3 (oi := ⟨some 130, _, _, _, _, _⟩) (v := undef) rfl (by kernel_rfl) (by kernel_rfl) (by kernel_rfl) (fun _ _ _ h => h) (Or.inr ⟨by rfl, rfl⟩) hSm ?restm27
                  try simp only [Act.put, List.setIfInBounds_toArray, List.set_cons_zero, List.set_cons_succ]
                  refine takeH 4 (oi := ⟨some 131, _, _, _, _, _⟩) (v := undef) rfl (by kernel_rfl) (by kernel_rfl) (by kernel_rfl) (fun _ _ _ h => h) (Or.inr ⟨by rfl, rfl⟩) hSm ?restm28
                  try simp only [Act.put, List.setIfInBounds_toArray, List.set_cons_zero, List.set_cons_succ]
                  refine takeH 5 (oi := ⟨some 132, _, _, _, _, _⟩) (v := undef) rfl (by kernel_rfl) (by kernel_rfl) (by kernel_rfl) (fun _ _ _ h => h) (Or.inr ⟨by rfl, rfl⟩) hSm ?restm29
                  try simp only [Act.put, List.setIfInBounds_toArray, List.set_cons_zero, List.set_cons_succ]
                  refine takeH 6 (oi := ⟨some 133, _, _, _, _, _⟩) (v := undef) rfl (by kernel_rfl) (by kernel_rfl) (by kernel_rfl) (fun _ _ _ h => h) (Or.inr ⟨by rfl, rfl⟩) hSm ?restm30
                  try simp only [Act.put, List.setIfInBounds_toArray, List.set_cons_zero, List.set_cons_succ]
                  refine takeH 7 (oi := ⟨some 134, _, _, _, _, _⟩) (v := undef) rfl (by kernel_rfl) (by kernel_rfl) (by kernel_rfl) (fun _ _ _ h => h) (Or.inr ⟨by rfl, rfl⟩) hSm ?restm31
                  try simp only [Act.put, List.setIfInBounds_toArray, List.set_cons_zero, List.set_cons_succ]
                  refine takeH 8 (oi := ⟨some 135, _, _, _, _, _⟩) (v := undef) rfl (by kernel_rfl) (by kernel_rfl) (by kernel_rfl) (fun _ _ _ h => h) (Or.inr ⟨by rfl, rfl⟩) hSm ?restm32
                  try simp only [Act.put, List.setIfInBounds_toArray, List.set_cons_zero, List.set_cons_succ]
                  refine takeH 9 (oi := ⟨some 136, _, _, _, _, _⟩) (v := undef) rfl (by kernel_rfl) (by kernel_rfl) (by kernel_rfl) (fun _ _ _ h => h) (Or.inr ⟨by rfl, rfl⟩) hSm ?restm33
                  try simp only [Act.put, List.setIfInBounds_toArray, List.set_cons_zero, List.set_cons_succ]
                  refine takeH 10 (oi := ⟨some 137, _, _, _, _, _⟩) (v := undef) rfl (by kernel_rfl) (by kernel_rfl) (by kernel_rfl) (fun _ _ _ h => h) (Or.inr ⟨by rfl, rfl⟩) hSm ?restm34
                  try simp only [Act.put, List.setIfInBounds_toArray, List.set_cons_zero, List.set_cons_succ]
                  refine takeH 11 (oi := ⟨some 138, _, _, _, _, _⟩) (v := undef) rfl (by kernel_rfl) (by kernel_rfl) (by kernel_rfl) (fun _ _ _ h => h) (Or.inr ⟨by rfl, rfl⟩) hSm ?restm35
                  try simp only [Act.put, List.setIfInBounds_toArray, List.set_cons_zero, List.set_cons_succ]
                  refine takeH 12 (oi := ⟨some 139, _, _, _, _, _⟩) (v := undef) rfl (by kernel_rfl) (by kernel_rfl) (by kernel_rfl) (fun _ _ _ h => h) (Or.inr ⟨by rfl, rfl⟩) hSm ?restm36
                  try simp only [Act.put, List.setIfInBounds_toArray, List.set_cons_zero, List.set_cons_succ]
                  refine takeH 13 (oi := ⟨some 140, _, _, _, _, _⟩) (v := undef) rfl (by kernel_rfl) (by kernel_rfl) (by kernel_rfl) (fun _ _ _ h => h) (Or.inr ⟨by rfl, rfl⟩) hSm ?restm37
                  try simp only [Act.put, List.setIfInBounds_toArray, List.set_cons_zero, List.set_cons_succ]
                  refine takeH 14 (oi := ⟨some 141, _, _, _, _, _⟩) (v := undef) rfl (by kernel_rfl) (by kernel_rfl) (by kernel_rfl) (fun _ _ _ h => h) (Or.inr ⟨by rfl, rfl⟩) hSm ?restm38
                  try simp only [Act.put, List.setIfInBounds_toArray, List.set_cons_zero, List.set_cons_succ]
                  refine takeH 15 (oi := ⟨some 142, _, _, _, _, _⟩) (v := undef) rfl (by kernel_rfl) (by kernel_rfl) (by kernel_rfl) (fun _ _ _ h => h) (Or.inr ⟨by rfl, rfl⟩) hSm ?restm39
                  try simp only [Act.put, List.setIfInBounds_toArray, List.set_cons_zero, List.set_cons_succ]
                  refine takeH 16 (oi := ⟨some 143, _, _, _, _, _⟩) (v := undef) rfl (by kernel_rfl) (by kernel_rfl) (by kernel_rfl) (fun _ _ _ h => h) (Or.inr ⟨by rfl, rfl⟩) hSm ?restm40
                  try simp only [Act.put, List.setIfInBounds_toArray, List.set_cons_zero, List.set_cons_succ]
                  refine takeH 17 (oi := ⟨some 144, _, _, _, _, _⟩) (v := undef) rfl (by kernel_rfl) (by kernel_rfl) (by kernel_rfl) (fun _ _ _ h => h) (Or.inr ⟨by rfl, rfl⟩) hSm ?restm41
                  try simp only [Act.put, List.setIfInBounds_toArray, List.set_cons_zero, List.set_cons_succ]
                  refine takeH 18 (oi := ⟨some 145, _, _, _, _, _⟩) (v := undef) rfl (by kernel_rfl) (by kernel_rfl) (by kernel_rfl) (fun _ _ _ h => h) (Or.inr ⟨by rfl, rfl⟩) hSm ?restm42
                  try simp only [Act.put, List.setIfInBounds_toArray, List.set_cons_zero, List.set_cons_succ]
                  refine takeH 19 (oi := ⟨some 146, _, _, _, _, _⟩) (v := undef) rfl (by kernel_rfl) (by kernel_rfl) (by kernel_rfl) (fun _ _ _ h => h) (Or.inr ⟨by rfl, rfl⟩) hSm ?restm43
                  try simp only [Act.put, List.setIfInBounds_toArray, List.set_cons_zero, List.set_cons_succ]
                  refine takeH 20 (oi := ⟨some 147, _, _, _, _, _⟩) (v := undef) rfl (by kernel_rfl) (by kernel_rfl) (by kernel_rfl) (fun _ _ _ h => h) (Or.inr ⟨by rfl, rfl⟩) hSm ?restm44
                  try simp only [Act.put, List.setIfInBounds_toArray, List.set_cons_zero, List.set_cons_succ]
                  refine takeH 21 (oi := ⟨some 148, _, _, _, _, _⟩) (v := ?_) rfl (by kernel_rfl) (by kernel_rfl) (by kernel_rfl) (fun _ _ _ h => h) (Or.inl ⟨by rfl, ?hym45⟩) hSm ?restm45
                  case hym45 => (intro W hW; (try dsimp only at hW); go_simp; try with_reducible rfl)
                  try simp only [Act.put, List.setIfInBounds_toArray, List.set_cons_zero, List.set_cons_succ]
                  refine takeH 22 (oi := ⟨some 6, _, _, _, _, _⟩) (v := ?_) rfl (by kernel_rfl) (by kernel_rfl) (by kernel_rfl) (fun _ _ _ h => h) (Or.inl ⟨by rfl, ?hym46⟩) hSm ?restm46
                  case hym46 => (intro W hW; (try dsimp only at hW); go_simp; try with_reducible rfl)
                  try simp only [Act.put, List.setIfInBounds_toArray, List.set_cons_zero, List.set_cons_succ]
                  refine wpAnyH_done (by kernel_rfl) ?_ _
                  go_wp2
                  go_ret
                  exact ⟨rfl, HB1.out.trans (Dm.out.1.bel.mono HB1.out.size)⟩
                · have h0' : decide ((0 : Int) ≤ n) = false := decide_eq_false h0
                  clear hin
                  go_upto_region 32 with (go_at_call 68; (with_reducible refine HPT.out.mono ?_); rintro e wp ⟨rfl, hh⟩; have DP := Lib.hid hh; clear hh z0 z1 z2)
                  have BLo : Below wp.heap.size wp ({ wp with drawn := wp.drawn + 1 } : World) := ⟨rfl, rfl, rfl, Nat.le_refl _, fun _ _ => rfl⟩
                  have Do := Lib.hid (DP.out.below BLo)
                  refine wp_region_held (S := fun W => True) (by kernel_rfl) ?_
                  generalize ({ wp with drawn := wp.drawn + 1 } : World) = wo at BLo Do ⊢
                  have hSo : (fun W : World => True) wo := trivial
                  refine takeH 0 (oi := ⟨some 127, _, _, _, _, _⟩) (v := ?_) rfl (by kernel_rfl) (by kernel_rfl) (by kernel_rfl) (fun _ _ _ h => h) (Or.inl ⟨by rfl, ?hyo47⟩) hSo ?resto47
                  case hyo47 => (intro W hW; (try dsimp only at hW); go_simp; try with_reducible rfl)
                  try simp only [Act.put, List.setIfInBounds_toArray, List.set_cons_zero, List.set_cons_succ]
                  refine takeH 1 (oi := ⟨some 128, _, _, _, _, _⟩) (v := ?_) rfl (by kernel_rfl) (by kernel_rfl) (by kernel_rfl) (fun _ _ _ h => h) (Or.inl ⟨by rfl, ?hyo48⟩) hSo ?resto48
                  case hyo48 => (intro W hW; (try dsimp only at hW); go_simp; try with_reducible rfl)
                  try simp only [Act.put, List.setIfInBounds_toArray, List.set_cons_zero, List.set_cons_succ]
                  refine takeH 2 (oi := ⟨some 129, _, _, _, _, _⟩) (v := ?_) rfl (by kernel_rfl) (by kernel_rfl) (by kernel_rfl) (fun _ _ _ h => h) (Or.inl ⟨by rfl, ?hyo49⟩) hSo ?resto49
                  case hyo49 => (intro W hW; (try dsimp only at hW); go_simp; try with_reducible rfl)
                  try simp only [Act.put, List.setIfInBounds_toArray, List.set_cons_zero, List.set_cons_succ]
                  refine takeH 3 (oi := ⟨some 130, _, _, _, _, _⟩) (v := undef) rfl (by kernel_rfl) (by kernel_rfl) (by kernel_rfl) (fun _ _ _ h => h) (Or.inr ⟨by rfl, rfl⟩) hSo ?resto50
                  try simp only [Act.put, List.setIfInBounds_toArray, List.set_cons_zero, List.set_cons_succ]
                  refine takeH 4 (oi := ⟨some 131, _, _, _, _, _⟩) (v := undef) rfl (by kernel_rfl) (by kernel_rfl) (by kernel_rfl) (fun _ _ _ h => h) (Or.inr ⟨by rfl, rfl⟩) hSo ?resto51
                  try simp only [Act.put, List.setIfInBounds_toArray, List.set_cons_zero, List.set_cons_succ]
                  refine takeH 5 (oi := ⟨some 132, _, _, _, _, _⟩) (v := undef) rfl (by kernel_rfl) (by kernel_rfl) (by kernel_rfl) (fun _ _ _ h => h) (Or.inr ⟨by rfl, rfl⟩) hSo ?resto52
                  try simp only [Act.put, List.setIfInBounds_toArray, List.set_cons_zero, List.set_cons_succ]
                  refine takeH 6 (oi := ⟨some 133, _, _, _, _, _⟩) (v := undef) rfl (by kernel_rfl) (by kernel_rfl) (by kernel_rfl) (fun _ _ _ h => h) (Or.inr ⟨by rfl, rfl⟩) hSo ?resto53
                  try simp only [Act.put, List.setIfInBounds_toArray, List.set_cons_zero, List.set_cons_succ]
                  refine takeH 7 (oi := ⟨some 134, _, _, _, _, _⟩) (v := undef) rfl (by kernel_rfl) (by kernel_rfl) (by kernel_rfl) (fun _ _ _ h => h) (Or.inr ⟨by rfl, rfl⟩) hSo ?resto54
                  try simp only [Act.put, List.setIfInBounds_toArray, List.set_cons_zero, List.set_cons_succ]
                  refine takeH 8 (oi := ⟨some 135, _, _, _, _, _⟩) (v := undef) rfl (by kernel_rfl) (by kernel_rfl) (by kernel_rfl) (fun _ _ _ h => h) (Or.inr ⟨by rfl, rfl⟩) hSo ?resto55
                  try simp only [Act.put, List.setIfInBounds_toArray, List.set_cons_zero, List.set_cons_succ]
                  refine takeH 9 (oi := ⟨some 136, _, _, _, _, _⟩) (v := undef) rfl (by kernel_rfl) (by kernel_rfl) (by kernel_rfl) (fun _ _ _ h => h) (Or.inr ⟨by rfl, rfl⟩) hSo ?resto56
                  try simp only [Act.put, List.setIfInBounds_toArray, List.set_cons_zero, List.set_cons_succ]
                  refine takeH 10 (oi := ⟨some 137, _, _, _, _, _⟩) (v := undef) rfl (by kernel_rfl) (by kernel_rfl) (by kernel_rfl) (fun _ _ _ h => h) (Or.inr ⟨by rfl, rfl⟩) hSo ?resto57
                  try simp only [Act.put, List.setIfInBounds_toArray, List.set_cons_zero, List.set_cons_succ]
                  refine takeH 11 (oi := ⟨some 138, _, _, _, _, _⟩) (v := undef) rfl (by kernel_rfl) (by kernel_rfl) (by kernel_rfl) (fun _ _ _ h => h) (Or.inr ⟨by rfl, rfl⟩) hSo ?resto58
                  try simp only [Act.put, List.setIfInBounds_toArray, List.set_cons_zero, List.set_cons_succ]
                  refine takeH 12 (oi := ⟨some 139, _, _, _, _, _⟩) (v := undef) rfl (by kernel_rfl) (by kernel_rfl) (by kernel_rfl) (fun _ _ _ h => h) (Or.inr ⟨by rfl, rfl⟩) hSo ?resto59
                  try simp only [Act.put, List.setIfInBounds_toArray, List.set_cons_zero, List.set_cons_succ]
                  refine takeH 13 (oi := ⟨some 140, _, _, _, _, _⟩) (v := undef) rfl (by kernel_rfl) (by kernel_rfl) (by kernel_rfl) (fun _ _ _ h => h) (Or.inr ⟨by rfl, rfl⟩) hSo ?resto60
                  try simp only [Act.put, List.setIfInBounds_toArray, List.set_cons_zero, List.set_cons_succ]
                  refine takeH 14 (oi := ⟨some 141, _, _, _, _, _⟩) (v := undef) rfl (by kernel_rfl) (by kernel_rfl) (by kernel_rfl) (fun _ _ _ h => h) (Or.inr ⟨by rfl, rfl⟩) hSo ?resto61
                  try simp only [Act.put, List.setIfInBounds_toArray, List.set_cons_zero, List.set_cons_succ]
                  refine takeH 15 (oi := ⟨some 142, _, _, _, _, _⟩) (v := undef) rfl (by kernel_rfl) (by kernel_rfl) (by kernel_rfl) (fun _ _ _ h => h) (Or.inr ⟨by rfl, rfl⟩) hSo ?resto62
                  try simp only [Act.put, List.setIfInBounds_toArray, List.set_cons_zero, List.set_cons_succ]
                  refine takeH 16 (oi := ⟨some 143, _, _, _, _, _⟩) (v := undef) rfl (by kernel_rfl) (by kernel_rfl) (by kernel_rfl) (fun _ _ _ h => h) (Or.inr ⟨by rfl, rfl⟩) hSo ?resto63
                  try simp only [Act.put, List.setIfInBounds_toArray, List.set_cons_zero, List.set_cons_succ]
                  refine takeH 17 (oi := ⟨some 144, _, _, _, _, _⟩) (v := undef) rfl (by kernel_rfl) (by kernel_rfl) (by kernel_rfl) (fun _ _ _ h => h) (Or.inr ⟨by rfl, rfl⟩) hSo ?resto64
                  try simp only [Act.put, List.setIfInBounds_toArray, List.set_cons_zero, List.set_cons_succ]
                  refine takeH 18 (oi := ⟨some 145, _, _, _, _, _⟩) (v := undef) rfl (by kernel_rfl) (by kernel_rfl) (by kernel_rfl) (fun _ _ _ h => h) (Or.inr ⟨by rfl, rfl⟩) hSo ?resto65
                  try simp only [Act.put, List.setIfInBounds_toArray, List.set_cons_zero, List.set_cons_succ]
                  refine takeH 19 (oi := ⟨some 146, _, _, _, _, _⟩) (v := undef) rfl (by kernel_rfl) (by kernel_rfl) (by kernel_rfl) (fun _ _ _ h => h) (Or.inr ⟨by rfl, rfl⟩) hSo ?resto66
                  try simp only [Act.put, List.setIfInBounds_toArray, List.set_cons_zero, List.set_cons_succ]
                  refine takeH 20 (oi := ⟨some 147, _, _, _, _, _⟩) (v := undef) rfl (by kernel_rfl) (by kernel_rfl) (by kernel_rfl) (fun _ _ _ h => h) (Or.inr ⟨by rfl, rfl⟩) hSo ?resto67
                  try simp only [Act.put, List.setIfInBounds_toArray, List.set_cons_zero, List.set_cons_succ]
                  refine takeH 21 (oi := ⟨some 148, _, _, _, _, _⟩) (v := ?_) rfl (by kernel_rfl) (by kernel_rfl) (by kernel_rfl) (fun _ _ _ h => h) (Or.inl ⟨by rfl, ?hyo68⟩) hSo ?resto68
                  case hyo68 => (intro W hW; (try dsimp only at hW); go_simp; try with_reducible rfl)
                  try simp only [Act.put, List.setIfInBounds_toArray, List.set_cons_zero, List.set_cons_succ]
                  refine takeH 22 (oi := ⟨some 6, _, _, _, _, _⟩) (v := ?_) rfl (by kernel_rfl) (by kernel_rfl) (by kernel_rfl) (fun _ _ _ h => h) (Or.inl ⟨by rfl, ?hyo69⟩) hSo ?resto69
                  case hyo69 => (intro W hW; (try dsimp only at hW); go_simp; try with_reducible rfl)
                  try simp only [Act.put, List.setIfInBounds_toArray, List.set_cons_zero, List.set_cons_succ]
                  refine wpAnyH_done (by kernel_rfl) ?_ _
                  go_wp2
                  go_ret
                  exact ⟨rfl, HB1.out.trans (Do.out.1.bel.mono HB1.out.size)⟩
end Go.Proofs.Ytmjfmfelbmbniaa
