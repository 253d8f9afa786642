/- Layer 15: Find without a book, Either, Link, Epoch. -/
import Derived.Test.YtmjfmfelbmbniaaMeA
namespace Go.Proofs.Ytmjfmfelbmbniaa
open Go.RowKit Go.Maps HK ShM
set_option linter.unusedVariables false
set_option linter.unusedSimpArgs false
section
variable {w w' w0 : World} {U Z Y : Nat → Prop} {q : Option Addr} {D F : Int} {T : List Sh} {N i tb : Nat} {mp p p2 bk : Value} {s : Tab} {o o2 : Option Tab} {tabs : List T3} {L : List (Nat × TypeId × List Value)} {c : Nat × TypeId × List Value}
theorem TL.find1 (h : TL w0 w Z q D F T N tabs L) (hr : TabRef tabs p o) (z : ByteArray) (hz : z.size ≤ maxLen) (hN : N ≤ 100000) : Calls Try.prog 81 #[p, .string z] w fun e w' => e = .returned (findV o z).v ∧ Below w.heap.size w w' := by
  have hb1 : Below w.heap.size w (w.alloc (.cells #[.int .i64 0, .int .i64 0, .string ⟨#[]⟩] 57)) := (Below.refl _ _).alloc (Nat.le_refl _) _
  have HB1 := Lib.hid hb1
  have HK1 := Lib.hid (Blk.new w [.int .i64 0, .int .i64 0, .string ⟨#[]⟩] 57)
  have D1 := Lib.hid (h.below hb1)
  obtain ⟨mp, hm, hme⟩ := h.metaR hr
  have HME := Lib.hid (hme _ D1.out)
  have HS := Lib.hid (fun (W : World) => ofStr_calls z W)
  have HGT := Lib.hid (fun (W : World) (hW : TL w0 W Z q D F T N tabs L) => hW.getR hm z hz hN)
  obtain ⟨r, hrr⟩ : ∃ b, b = w.heap.size := ⟨_, rfl⟩
  clear h hr hb1 hz hN hme hm
  obtain ⟨⟨g1, g2, g3⟩, hg⟩ : ∃ g, g = findV o z := ⟨_, rfl⟩
  rw [← hg] at HGT ⊢
  clear hg
  go_enter Try.func81, Try.ntmps81
  go_upto_region 1 with fail
  obtain ⟨w1, hw1⟩ : ∃ w1, w1 = w.alloc (.cells #[.int .i64 0, .int .i64 0, .string ⟨#[]⟩] 57) := ⟨_, rfl⟩
  rw [← hw1] at HB1 HK1 D1 HME ⊢
  rw [← hrr] at HK1 ⊢
  have HRR : Hid (w.heap.size ≤ r) := Lib.hid (Nat.le_of_eq hrr.symm)
  clear hw1 hrr
  go_wp2_with (first
    | (go_at_call 84; (with_reducible refine HME.out.mono ?_); rintro e w2 ⟨rfl, rfl⟩)
    | (go_at_call 54; (with_reducible refine (HS.out _).mono ?_); rintro e w3 ⟨rfl, hb⟩; have HB3 := Lib.hid (HB1.out.trans (hb.mono HB1.out.size)); have HK3 := Lib.hid (HK1.out.of (hb.block _ HK1.out.lt)); have HGG := Lib.hid (HGT.out _ (D1.out.below hb)); clear hb)
    | (go_at_call 67; (with_reducible refine HGG.out.mono ?_); rintro e w4 ⟨rfl, hb⟩; have HB4 := Lib.hid (HB3.out.trans (hb.mono HB3.out.size)); have HK4 := Lib.hid (HK3.out.of (hb.block _ HK3.out.lt)); clear hb; have c0 := HK4.out.cell 0 _ rfl; have c1 := HK4.out.cell 1 _ rfl; have c2 := HK4.out.cell 2 _ rfl; have f0 := HK4.out.frozen 0; have f1 := HK4.out.frozen 1; have f2 := HK4.out.frozen 2))
  refine bodyPost_ret (results_val (x := ⟨g1, g2, g3⟩) rfl _ rfl (((HK4.out.setSame 0 _).setSame 1 _).setSame 2 _)) rfl ⟨rfl, ?_⟩
  exact ((HB4.out.setCell HRR.out _).setCell HRR.out _).setCell HRR.out _
def eitherV (o o2 : Option Tab) (z : ByteArray) : Val := if (findV o z).k = 0 then findV o2 z else findV o z
theorem TL.either (h : TL w0 w Z q D F T N tabs L) (hr : TabRef tabs p o) (hr2 : TabRef tabs p2 o2) (hbk : BookV q L bk) (z : ByteArray) (hz : z.size ≤ maxLen) (hN : N ≤ 100000) : Calls Try.prog 82 #[bk, p, p2, .string z] w fun e w' => e = .returned (eitherV o o2 z).v ∧ Below w.heap.size w w' := by
  have hb1 : Below w.heap.size w (w.alloc (.cells #[.int .i64 0, .int .i64 0, .string ⟨#[]⟩] 57)) := (Below.refl _ _).alloc (Nat.le_refl _) _
  have HB1 := Lib.hid hb1
  have HK1 := Lib.hid (Blk.new w [.int .i64 0, .int .i64 0, .string ⟨#[]⟩] 57)
  have D1 := Lib.hid (h.below hb1)
  have HF1 := Lib.hid (D1.out.find hr hbk z hz hN)
  have HF2 := Lib.hid (fun (W : World) (hW : TL w0 W Z q D F T N tabs L) => hW.find hr2 hbk z hz hN)
  obtain ⟨r, hrr⟩ : ∃ b, b = w.heap.size := ⟨_, rfl⟩
  clear h hr hr2 hb1 hz hN hbk
  obtain ⟨⟨g1, g2, g3⟩, hg⟩ : ∃ g, g = findV o z := ⟨_, rfl⟩
  obtain ⟨⟨k1, k2, k3⟩, hk⟩ : ∃ g, g = findV o2 z := ⟨_, rfl⟩
  have EV : Hid (eitherV o o2 z = if g1 = 0 then ⟨k1, k2, k3⟩ else ⟨g1, g2, g3⟩) := Lib.hid (by unfold eitherV; rw [← hg, ← hk])
  rw [← hg] at HF1
  rw [← hk] at HF2
  rw [EV.out]
  clear hg hk EV
  by_cases hz0 : g1 = 0
  · subst hz0
    rw [if_pos rfl]
    go_enter Try.func82, Try.ntmps82
    go_upto_region 1 with fail
    obtain ⟨w1, hw1⟩ : ∃ w1, w1 = w.alloc (.cells #[.int .i64 0, .int .i64 0, .string ⟨#[]⟩] 57) := ⟨_, rfl⟩
    rw [← hw1] at HB1 HK1 D1 HF1 ⊢
    rw [← hrr] at HK1 ⊢
    have HRR : Hid (w.heap.size ≤ r) := Lib.hid (Nat.le_of_eq hrr.symm)
    clear hw1 hrr
    go_upto_region 3 with (go_at_call 80; (with_reducible refine HF1.out.mono ?_); rintro e w2 ⟨rfl, hb⟩; have HB2 := Lib.hid ((HB1.out.trans (hb.mono HB1.out.size)).alloc ((HB1.out.trans (hb.mono HB1.out.size)).size) (.cells #[.int .i64 0, .int .i64 g2, .string g3] 57)); have HK2 := Lib.hid ((HK1.out.of (hb.block _ HK1.out.lt)).alloc (.cells #[.int .i64 0, .int .i64 g2, .string g3] 57)); have D2 := Lib.hid ((D1.out.below hb).below ((Below.refl _ _).alloc (Nat.le_refl _) (.cells #[.int .i64 0, .int .i64 g2, .string g3] 57))); clear hb; have HK3 := Lib.hid (Blk.new w2 [.int .i64 0, .int .i64 g2, .string g3] 57))
    obtain ⟨r2, hr2⟩ : ∃ b, b = w2.heap.size := ⟨_, rfl⟩
    obtain ⟨w3, hw3⟩ : ∃ w3, w3 = w2.alloc (.cells #[.int .i64 0, .int .i64 g2, .string g3] 57) := ⟨_, rfl⟩
    rw [← hw3] at HB2 HK2 D2 HK3 ⊢
    rw [← hr2] at HK3 ⊢
    clear hr2 hw3
    have c0 := HK3.out.cell 0 _ rfl
    have HFF := Lib.hid (HF2.out _ D2.out)
    go_wp2_with (go_at_call 80; (with_reducible refine HFF.out.mono ?_); rintro e w4 ⟨rfl, hb⟩; have HB4 := Lib.hid (HB2.out.trans (hb.mono HB2.out.size)); have HK4 := Lib.hid (HK2.out.of (hb.block _ HK2.out.lt)); clear hb; have c0 := HK4.out.cell 0 _ rfl; have c1 := HK4.out.cell 1 _ rfl; have c2 := HK4.out.cell 2 _ rfl; have f0 := HK4.out.frozen 0; have f1 := HK4.out.frozen 1; have f2 := HK4.out.frozen 2)
    refine bodyPost_ret (results_val (x := ⟨k1, k2, k3⟩) rfl _ rfl (((HK4.out.setSame 0 _).setSame 1 _).setSame 2 _)) rfl ⟨rfl, ?_⟩
    exact ((HB4.out.setCell HRR.out _).setCell HRR.out _).setCell HRR.out _
  · rw [if_neg hz0]
    go_enter Try.func82, Try.ntmps82
    go_upto_region 1 with fail
    obtain ⟨w1, hw1⟩ : ∃ w1, w1 = w.alloc (.cells #[.int .i64 0, .int .i64 0, .string ⟨#[]⟩] 57) := ⟨_, rfl⟩
    rw [← hw1] at HB1 HK1 D1 HF1 ⊢
    rw [← hrr] at HK1 ⊢
    have HRR : Hid (w.heap.size ≤ r) := Lib.hid (Nat.le_of_eq hrr.symm)
    clear hw1 hrr
    go_upto_region 3 with (go_at_call 80; (with_reducible refine HF1.out.mono ?_); rintro e w2 ⟨rfl, hb⟩; have HB2 := Lib.hid ((HB1.out.trans (hb.mono HB1.out.size)).alloc ((HB1.out.trans (hb.mono HB1.out.size)).size) (.cells #[.int .i64 g1, .int .i64 g2, .string g3] 57)); have HK2 := Lib.hid ((HK1.out.of (hb.block _ HK1.out.lt)).alloc (.cells #[.int .i64 g1, .int .i64 g2, .string g3] 57)); clear hb; have HK3 := Lib.hid (Blk.new w2 [.int .i64 g1, .int .i64 g2, .string g3] 57))
    obtain ⟨r2, hr2⟩ : ∃ b, b = w2.heap.size := ⟨_, rfl⟩
    obtain ⟨w3, hw3⟩ : ∃ w3, w3 = w2.alloc (.cells #[.int .i64 g1, .int .i64 g2, .string g3] 57) := ⟨_, rfl⟩
    rw [← hw3] at HB2 HK2 HK3 ⊢
    rw [← hr2] at HK3 ⊢
    clear hr2 hw3
    have y0 := HK3.out.cell 0 _ rfl
    have y1 := HK3.out.cell 1 _ rfl
    have y2 := HK3.out.cell 2 _ rfl
    have c0 := HK2.out.cell 0 _ rfl; have c1 := HK2.out.cell 1 _ rfl; have c2 := HK2.out.cell 2 _ rfl
    have f0 := HK2.out.frozen 0; have f1 := HK2.out.frozen 1; have f2 := HK2.out.frozen 2
    go_wp2
    refine bodyPost_ret (results_val (x := ⟨g1, g2, g3⟩) rfl _ rfl (((HK2.out.setSame 0 _).setSame 1 _).setSame 2 _)) rfl ⟨rfl, ?_⟩
    exact ((HB2.out.setCell HRR.out _).setCell HRR.out _).setCell HRR.out _
theorem TL.epoch {bb : Nat} {ep : Int} (h : TL w0 w Z q D F T N tabs L) (hm : (bb, (207 : TypeId), [.pointer q, .int .u64 ep]) ∈ L) : Calls Try.prog 83 #[.pointer (some ⟨bb, 0, none⟩)] w fun e w' => e = .returned (.int .u64 ep) ∧ w = w' := by
  have hb := h.blk hm
  have c1 := hb.cell 1 _ rfl
  clear hb hm h
  go_enter Try.func83, Try.ntmps83
  go_wp2
  go_ret
  exact ⟨rfl, rfl⟩
theorem epoch_none (w : World) : Calls Try.prog 83 #[.pointer none] w fun e w' => e = .returned (.int .u64 0) ∧ w = w' := by
  go_enter Try.func83, Try.ntmps83
  go_wp2
  go_ret
  exact ⟨rfl, rfl⟩
/-- Link: a table's metatable, and one more in the book. -/
theorem TL.link {bb : Nat} {ep : Int} (h : TL w0 w Z q D F T N tabs ((bb, (207 : TypeId), [.pointer q, .int .u64 ep]) :: L)) (hi : tabs[i]? = some (tb, mp, s)) (r : Option Addr) (hb : w0.heap.size ≤ bb) (hd : ∀ c ∈ L, c.1 ≠ bb) (he : 0 ≤ ep ∧ ep ≤ 100000) :
    Calls Try.prog 77 #[.pointer (some ⟨bb, 0, none⟩), .pointer (some ⟨tb, 0, none⟩), .pointer r] w fun e w' => e = .returned (.tuple #[]) ∧ TL w0 w' Z q D F T N (tabs.set i (tb, .pointer r, s)) ((bb, (207 : TypeId), [.pointer q, .int .u64 (ep + 1)]) :: L) := by
  have HSM := Lib.hid (h.setMeta hi r)
  have HST := Lib.hid (fun (W : World) (hW : TL w0 W Z q D F T N (tabs.set i (tb, .pointer r, s)) ((bb, (207 : TypeId), [.pointer q, .int .u64 ep]) :: L)) => hW.stored hb hd 1 (.int .u64 (ep + 1)))
  have hw : IntKind.u64.wrap (ep + 1) = ep + 1 := by
    unfold IntKind.wrap
    simp [IntKind.signed, IntKind.bits]
    omega
  clear h
  obtain ⟨he0, he1⟩ := he
  go_enter Try.func77, Try.ntmps77
  go_wp2_with (go_at_call 90; (with_reducible refine HSM.out.mono ?_); rintro e w1 ⟨rfl, hh, _⟩; have D1 := Lib.hid hh; clear hh; have hbk := D1.out.blk (c := (bb, 207, [.pointer q, .int .u64 ep])) (by simp); have c1 := hbk.cell 1 _ rfl; have f1 := hbk.frozen 1; clear hbk)
  refine bodyPost_end (by simp [results, Try.results77, go_sem]) rfl ⟨rfl, ?_⟩
  exact HST.out _ D1.out
end
end Go.Proofs.Ytmjfmfelbmbniaa
