/- Layer 15: the names; books and what they find. -/
import Derived.Test.YtmjfmfelbmbniaaTaW
namespace Go.Proofs.Ytmjfmfelbmbniaa
open Go.RowKit Go.Maps HK ShM
set_option linter.unusedVariables false
set_option linter.unusedSimpArgs false
def metaNames : List ByteArray := [⟨#[95, 95, 105, 110, 100, 101, 120]⟩, ⟨#[95, 95, 110, 101, 119, 105, 110, 100, 101, 120]⟩, ⟨#[95, 95, 99, 97, 108, 108]⟩, ⟨#[95, 95, 101, 113]⟩, ⟨#[95, 95, 108, 116]⟩, ⟨#[95, 95, 108, 101]⟩, ⟨#[95, 95, 99, 111, 110, 99, 97, 116]⟩, ⟨#[95, 95, 108, 101, 110]⟩, ⟨#[95, 95, 117, 110, 109]⟩, ⟨#[95, 95, 98, 110, 111, 116]⟩, ⟨#[95, 95, 97, 100, 100]⟩, ⟨#[95, 95, 115, 117, 98]⟩, ⟨#[95, 95, 109, 117, 108]⟩, ⟨#[95, 95, 105, 100, 105, 118]⟩, ⟨#[95, 95, 109, 111, 100]⟩, ⟨#[95, 95, 98, 97, 110, 100]⟩, ⟨#[95, 95, 98, 111, 114]⟩, ⟨#[95, 95, 98, 120, 111, 114]⟩, ⟨#[95, 95, 115, 104, 108]⟩, ⟨#[95, 95, 115, 104, 114]⟩]
theorem mnames_calls (w : World) : Calls Try.prog 70 #[] w fun e w' => ∃ v, e = .returned v ∧ NewStrs w w' v metaNames ∧ v = .slice (some ⟨w.heap.size, 0, none⟩) 20 20 := by
  have hr := Lib.hid (World.ownsRow_lit (base := 0) (e := 9) (size := 1) w (metaNames.map .string).toArray 20 (Nat.zero_le _) (by decide) rfl)
  go_enter Try.func70, Try.ntmps70
  go_wp2
  go_ret
  refine ⟨rfl, hr.out, fun g hg => ?_, (Below.refl _ _).alloc (Nat.le_refl _) _⟩
  cases hg
  exact Nat.le_refl _
theorem rnames_calls (w : World) : Calls Try.prog 71 #[] w fun e w' => ∃ v, e = .returned v ∧ NewStrs w w' v metaNames ∧ v = .slice (some ⟨w.heap.size, 0, none⟩) 20 20 := by
  have hr := Lib.hid (World.ownsRow_lit (base := 0) (e := 9) (size := 1) w (metaNames.map .string).toArray 20 (Nat.zero_le _) (by decide) rfl)
  go_enter Try.func71, Try.ntmps71
  go_wp2
  go_ret
  refine ⟨rfl, hr.out, fun g hg => ?_, (Below.refl _ _).alloc (Nat.le_refl _) _⟩
  cases hg
  exact Nat.le_refl _
theorem setCell_off {b j x : Nat} (w : World) (v : Value) (h : b ≠ x) : (w.setCell ⟨b, j, none⟩ v).heap[x]? = w.heap[x]? := by
  exact Below.heap_setCell _ _ _ _ h.symm
section
variable {w w' w0 : World} {U Z Y : Nat → Prop} {q : Option Addr} {D F : Int} {T : List Sh} {N i tb : Nat} {mp p bk : Value} {s : Tab} {o : Option Tab} {tabs : List T3} {L : List (Nat × TypeId × List Value)} {c : Nat × TypeId × List Value}
/-- A cell of a block that stands beside the tables is set. -/
theorem TL.stored {b : Nat} {t : TypeId} {cs : List Value} (h : TL w0 w Z q D F T N tabs ((b, t, cs) :: L)) (hb : w0.heap.size ≤ b) (hd : ∀ c ∈ L, c.1 ≠ b) (j : Nat) (v : Value) : TL w0 (w.setCell ⟨b, j, none⟩ v) Z q D F T N tabs ((b, t, cs.set j v) :: L) := by
  obtain ⟨U, h1, h2, h3, h4, h5⟩ := h
  have h0 := h5 _ List.mem_cons_self
  have hsz : (w.setCell ⟨b, j, none⟩ v).heap.size = w.heap.size := by simp
  refine ⟨U, h1.of (Nat.le_of_eq hsz.symm) (fun x hx => ?_), h2, h3.setCell hb v, fun x hx => by rw [hsz]; exact h4 x hx, fun c hc => ?_⟩
  · have hne : b ≠ x := fun e => h0.2.1 (show U b from by rw [e]; exact hx)
    exact setCell_off w v hne
  · rcases List.mem_cons.1 hc with rfl | hc
    · exact ⟨h0.1.setSame j v, h0.2⟩
    · have := h5 c (List.mem_cons_of_mem _ hc)
      exact ⟨this.1.setOther (a := ⟨b, j, none⟩) (hd c hc) v, this.2⟩
theorem TL.book (h : TL w0 w Z q D F T N tabs L) : Calls Try.prog 75 #[.pointer q] w fun e w' => ∃ bb, e = .returned (.pointer (some ⟨bb, 0, none⟩)) ∧ TL w0 w' Z q D F T N tabs ((bb, 207, [.pointer q, .int .u64 0]) :: L) ∧ w.heap.size ≤ bb := by
  have H := Lib.hid h
  clear h
  go_enter Try.func75, Try.ntmps75
  go_wp2
  go_ret
  exact ⟨w.heap.size, rfl, H.out.alloc _ 207, Nat.le_refl _⟩
/-- The metatable that a pointer names. -/
def MetaOf (tabs : List T3) (mp : Value) (o : Option Tab) : Prop := (mp = .pointer none ∧ o = none) ∨ ∃ (j tb : Nat) (mp' : Value) (s : Tab), tabs[j]? = some (tb, mp', s) ∧ mp = .pointer (some ⟨tb, 0, none⟩) ∧ o = some s
/-- A table, or none, and the metatable that it has. -/
def TabRef (tabs : List T3) (p : Value) (o : Option Tab) : Prop := (p = .pointer none ∧ o = none) ∨ ∃ (i tb : Nat) (mp : Value) (s : Tab), tabs[i]? = some (tb, mp, s) ∧ p = .pointer (some ⟨tb, 0, none⟩) ∧ MetaOf tabs mp o
def findV (o : Option Tab) (z : ByteArray) : Val := match o with
  | none => Val.nil
  | some s => tgetM s (strV z)
def BookV (q : Option Addr) (L : List (Nat × TypeId × List Value)) (bk : Value) : Prop := bk = .pointer none ∨ ∃ bb ep, bk = .pointer (some ⟨bb, 0, none⟩) ∧ (bb, (207 : TypeId), [.pointer q, .int .u64 ep]) ∈ L
theorem tmetaN (w : World) : Calls Try.prog 84 #[.pointer none] w fun e w' => e = .returned (.pointer none) ∧ w = w' := by
  go_enter Try.func84, Try.ntmps84
  go_wp2
  go_ret
  exact ⟨rfl, rfl⟩
theorem TL.metaR (h : TL w0 w Z q D F T N tabs L) (hr : TabRef tabs p o) : ∃ mp, MetaOf tabs mp o ∧ ∀ W, TL w0 W Z q D F T N tabs L → Calls Try.prog 84 #[p] W fun e w' => e = .returned mp ∧ W = w' := by
  rcases hr with ⟨rfl, rfl⟩ | ⟨i, tb, mp, s, hi, rfl, hm⟩
  · exact ⟨_, .inl ⟨rfl, rfl⟩, fun W hW => tmetaN W⟩
  · exact ⟨_, hm, fun W hW => hW.meta_ hi⟩
theorem TL.getR (h : TL w0 w Z q D F T N tabs L) (hm : MetaOf tabs mp o) (z : ByteArray) (hz : z.size ≤ maxLen) (hN : N ≤ 100000) : Calls Try.prog 67 #[mp, (strV z).v] w fun e w' => e = .returned (findV o z).v ∧ Below w.heap.size w w' := by
  rcases hm with ⟨rfl, rfl⟩ | ⟨i, tb, mp', s, hi, rfl, rfl⟩
  · exact tget_nil (strV z) w
  · exact h.get hi (strV z) hz hN
theorem tget_miss {s : Tab} {z : ByteArray} (h : getA s.R (strV z) = none) : tgetM s (strV z) = Val.nil := by
  unfold tgetM
  have h1 : inA s.A (strV z) = false := rfl
  rw [h1, if_neg (by decide)]
  unfold getV
  rw [(strV_key z).1, (strV_key z).2, h]
  rfl
theorem TL.shaped (h : TL w0 w Z q D F T N tabs L) (hi : tabs[i]? = some (tb, mp, s)) (hh : s.h = false) (z : ByteArray) : slotM T s.i z = slotOf (ksOf T s.i) z ∧ (slotM T s.i z = none → tgetM s (strV z) = Val.nil) := by
  obtain ⟨B, X, h1, h2, h3, h4⟩ := h.at hi
  obtain ⟨h0, ⟨_, S, av, sv, h5, h6⟩ | ⟨h5, _⟩⟩ := h2
  · have e := slotM_in h5.lti z
    refine ⟨e, fun hn => tget_miss ?_⟩
    rw [h6, getA_slot h5.len h5.nd, ← e, hn]
    rfl
  · rw [hh] at h5; cases h5
theorem absent_none (m : Value) (z : ByteArray) (w : World) : Calls Try.prog 131 #[.pointer none, m, .string z] w fun e w' => e = .returned (.bool false) ∧ w = w' := by
  go_enter Try.func131, Try.ntmps131
  go_wp2
  go_ret
  exact ⟨rfl, rfl⟩
theorem absent_book {bb : Nat} {ep : Int} (h : TL w0 w Z q D F T N tabs L) (hi : tabs[i]? = some (tb, mp, s)) (hm : (bb, (207 : TypeId), [.pointer q, .int .u64 ep]) ∈ L) (z : ByteArray) (hz : z.size ≤ maxLen) : Calls Try.prog 131 #[.pointer (some ⟨bb, 0, none⟩), .pointer (some ⟨tb, 0, none⟩), .string z] w fun e w' => e = .returned (.bool (!s.h && (slotM T s.i z).isNone)) ∧ w = w' := by
  have HMO := Lib.hid (h.mode hi)
  have HSH := Lib.hid (h.shape hi)
  have HSL := Lib.hid (h.treeSlot (s.i : Int) z hz)
  have hb := h.blk hm
  have c0 := hb.cell 0 _ rfl
  clear hb h hm hz
  generalize slotM T s.i z = sl at *
  cases hh : s.h with
  | true =>
    rw [hh] at HMO
    have HMO : Hid (Calls Try.prog 64 #[.pointer (some ⟨tb, 0, none⟩)] w fun e w' => e = .returned (.int .i64 2) ∧ w = w') := HMO
    clear hh
    go_enter Try.func131, Try.ntmps131
    go_wp2_with (go_at_call 64; (with_reducible refine HMO.out.mono ?_); rintro e w1 ⟨rfl, rfl⟩)
    go_ret
    exact ⟨rfl, rfl⟩
  | false =>
    rw [hh] at HMO HSH
    have HMO : Hid (Calls Try.prog 64 #[.pointer (some ⟨tb, 0, none⟩)] w fun e w' => e = .returned (.int .i64 1) ∧ w = w') := HMO
    have HSH : Hid (Calls Try.prog 65 #[.pointer (some ⟨tb, 0, none⟩)] w fun e w' => e = .returned (.int .i64 (s.i : Int)) ∧ w = w') := HSH
    clear hh
    go_enter Try.func131, Try.ntmps131
    go_wp2_with (first
      | (go_at_call 64; (with_reducible refine HMO.out.mono ?_); rintro e w1 ⟨rfl, rfl⟩)
      | (go_at_call 65; (with_reducible refine HSH.out.mono ?_); rintro e w1 ⟨rfl, rfl⟩)
      | (go_at_call 34; (with_reducible refine HSL.out.mono ?_); rintro e w1 ⟨rfl, rfl⟩))
    go_ret
    cases sl with
    | none => exact ⟨rfl, rfl⟩
    | some j => exact ⟨rfl, rfl⟩
theorem TL.absent (h : TL w0 w Z q D F T N tabs L) (hi : tabs[i]? = some (tb, mp, s)) (hbk : BookV q L bk) (z : ByteArray) (hz : z.size ≤ maxLen) : ∃ ab : Bool, (ab = true → tgetM s (strV z) = Val.nil) ∧ ∀ W, TL w0 W Z q D F T N tabs L → Calls Try.prog 131 #[bk, .pointer (some ⟨tb, 0, none⟩), .string z] W fun e w' => e = .returned (.bool ab) ∧ W = w' := by
  rcases hbk with rfl | ⟨bb, ep, rfl, hm⟩
  · exact ⟨false, (fun h => by cases h), fun W hW => absent_none _ z W⟩
  · refine ⟨!s.h && (slotM T s.i z).isNone, fun hab => ?_, fun W hW => absent_book hW hi hm z hz⟩
    simp only [Bool.and_eq_true, Bool.not_eq_true', Option.isNone_iff_eq_none] at hab
    exact (h.shaped hi hab.1 z).2 hab.2
theorem TL.find (h : TL w0 w Z q D F T N tabs L) (hr : TabRef tabs p o) (hbk : BookV q L bk) (z : ByteArray) (hz : z.size ≤ maxLen) (hN : N ≤ 100000) : Calls Try.prog 80 #[bk, p, .string z] w fun e w' => e = .returned (findV o z).v ∧ Below w.heap.size w w' := by
  have hb1 : Below w.heap.size w (w.alloc (.cells #[.int .i64 0, .int .i64 0, .string ⟨#[]⟩] 57)) := (Below.refl _ _).alloc (Nat.le_refl _) _
  have HB1 := Lib.hid hb1
  have HK1 := Lib.hid (Blk.new w [.int .i64 0, .int .i64 0, .string ⟨#[]⟩] 57)
  have D1 := Lib.hid (h.below hb1)
  obtain ⟨mp, hm, hme⟩ := h.metaR hr
  have HME := Lib.hid (hme _ D1.out)
  have HS := Lib.hid (fun (W : World) => ofStr_calls z W)
  have HRR := Lib.hid (Nat.le_refl w.heap.size)
  obtain ⟨r, hrr⟩ : ∃ b, b = w.heap.size := ⟨_, rfl⟩
  rcases hm with ⟨rfl, rfl⟩ | ⟨j, tb', mp', s', hj, rfl, rfl⟩
  · clear h hr hbk hb1 hz hN hme
    go_enter Try.func80, Try.ntmps80
    go_upto_region 1 with fail
    obtain ⟨w1, hw1⟩ : ∃ w1, w1 = w.alloc (.cells #[.int .i64 0, .int .i64 0, .string ⟨#[]⟩] 57) := ⟨_, rfl⟩
    rw [← hw1] at HB1 HK1 HME ⊢
    rw [← hrr] at HK1 ⊢
    have HRR : Hid (w.heap.size ≤ r) := Lib.hid (Nat.le_of_eq hrr.symm)
    clear hw1 hrr
    have c0 := HK1.out.cell 0 _ rfl; have c1 := HK1.out.cell 1 _ rfl; have c2 := HK1.out.cell 2 _ rfl
    have f0 := HK1.out.frozen 0; have f1 := HK1.out.frozen 1; have f2 := HK1.out.frozen 2
    go_wp2_with (go_at_call 84; (with_reducible refine HME.out.mono ?_); rintro e w2 ⟨rfl, rfl⟩)
    refine bodyPost_ret (results_val (x := Val.nil) rfl _ rfl (((HK1.out.setSame 0 _).setSame 1 _).setSame 2 _)) rfl ⟨rfl, ?_⟩
    exact ((HB1.out.setCell HRR.out _).setCell HRR.out _).setCell HRR.out _
  · obtain ⟨ab, hab, hac⟩ := h.absent hj hbk z hz
    have HAB := Lib.hid (hac _ D1.out)
    have HA := Lib.hid hab
    have HGT := Lib.hid (fun (W : World) (hW : TL w0 W Z q D F T N tabs L) => hW.get hj (strV z) hz hN)
    clear h hr hbk hb1 hz hN hme hab hac
    obtain ⟨⟨g1, g2, g3⟩, hg⟩ : ∃ g, g = tgetM s' (strV z) := ⟨_, rfl⟩
    have HG := Lib.hid hg
    rw [← hg] at HGT HA
    clear hg
    have EF : Hid (findV (some s') z = ⟨g1, g2, g3⟩) := Lib.hid HG.out.symm
    rw [EF.out]
    go_enter Try.func80, Try.ntmps80
    go_upto_region 1 with fail
    obtain ⟨w1, hw1⟩ : ∃ w1, w1 = w.alloc (.cells #[.int .i64 0, .int .i64 0, .string ⟨#[]⟩] 57) := ⟨_, rfl⟩
    rw [← hw1] at HB1 HK1 D1 HME HAB ⊢
    rw [← hrr] at HK1 ⊢
    have HRR : Hid (w.heap.size ≤ r) := Lib.hid (Nat.le_of_eq hrr.symm)
    clear hw1 hrr
    cases ab with
    | true =>
      have hn := HA.out rfl
      injection hn with n1 n2 n3
      subst n1 n2 n3
      have c0 := HK1.out.cell 0 _ rfl; have c1 := HK1.out.cell 1 _ rfl; have c2 := HK1.out.cell 2 _ rfl
      have f0 := HK1.out.frozen 0; have f1 := HK1.out.frozen 1; have f2 := HK1.out.frozen 2
      go_wp2_with (first
        | (go_at_call 84; (with_reducible refine HME.out.mono ?_); rintro e w2 ⟨rfl, rfl⟩)
        | (go_at_call 131; (with_reducible refine HAB.out.mono ?_); rintro e w2 ⟨rfl, rfl⟩))
      refine bodyPost_ret (results_val (x := Val.nil) rfl _ rfl (((HK1.out.setSame 0 _).setSame 1 _).setSame 2 _)) rfl ⟨rfl, ?_⟩
      exact ((HB1.out.setCell HRR.out _).setCell HRR.out _).setCell HRR.out _
    | false =>
      go_wp2_with (first
        | (go_at_call 84; (with_reducible refine HME.out.mono ?_); rintro e w2 ⟨rfl, rfl⟩)
        | (go_at_call 131; (with_reducible refine HAB.out.mono ?_); rintro e w2 ⟨rfl, rfl⟩)
        | (go_at_call 54; (with_reducible refine (HS.out _).mono ?_); rintro e w3 ⟨rfl, hb⟩; have HB3 := Lib.hid (HB1.out.trans (hb.mono HB1.out.size)); have HK3 := Lib.hid (HK1.out.of (hb.block _ HK1.out.lt)); have HGG := Lib.hid (HGT.out _ (D1.out.below hb)); clear hb)
        | (go_at_call 67; (with_reducible refine HGG.out.mono ?_); rintro e w4 ⟨rfl, hb⟩; have HB4 := Lib.hid (HB3.out.trans (hb.mono HB3.out.size)); have HK4 := Lib.hid (HK3.out.of (hb.block _ HK3.out.lt)); clear hb; have c0 := HK4.out.cell 0 _ rfl; have c1 := HK4.out.cell 1 _ rfl; have c2 := HK4.out.cell 2 _ rfl; have f0 := HK4.out.frozen 0; have f1 := HK4.out.frozen 1; have f2 := HK4.out.frozen 2))
      refine bodyPost_ret (results_val (x := ⟨g1, g2, g3⟩) rfl _ rfl (((HK4.out.setSame 0 _).setSame 1 _).setSame 2 _)) rfl ⟨rfl, ?_⟩
      exact ((HB4.out.setCell HRR.out _).setCell HRR.out _).setCell HRR.out _
end
end Go.Proofs.Ytmjfmfelbmbniaa
