/- The reference's dictionary: Set. -/
import Derived.Test.YtmjfmfelbmbniaaRn
namespace Go.Proofs.Ytmjfmfelbmbniaa
open Go.RowKit Go.Maps HK ShM
set_option linter.unusedVariables false
set_option linter.unusedSimpArgs false
theorem flatP_cons (y : Val × Val) (r : Pairs) : flatP (y :: r) = .int .i64 y.1.k :: .int .i64 y.1.n :: .string y.1.s :: .int .i64 y.2.k :: .int .i64 y.2.n :: .string y.2.s :: flatP r := rfl
theorem flatP_append (A B : Pairs) : flatP (A ++ B) = flatP A ++ flatP B := List.flatMap_append
theorem flatP_set : ∀ {L : Pairs} {n : Nat} {k v : Val} (o : Val), L[n]? = some (k, v) → (((flatP L).set (n * 6 + 3) (.int .i64 o.k)).set (n * 6 + 4) (.int .i64 o.n)).set (n * 6 + 5) (.string o.s) = flatP (L.set n (k, o))
  | [], n, k, v, o, h => by simp at h
  | y :: r, 0, k, v, o, h => by
    simp at h; subst h
    simp [flatP_cons]
  | y :: r, n + 1, k, v, o, h => by
    have ih := flatP_set (L := r) (n := n) (k := k) (v := v) o (by simpa using h)
    rw [List.set_cons_succ, flatP_cons, flatP_cons, ← ih, show (n + 1) * 6 + 3 = n * 6 + 3 + 1 + 1 + 1 + 1 + 1 + 1 by omega, show (n + 1) * 6 + 4 = n * 6 + 4 + 1 + 1 + 1 + 1 + 1 + 1 by omega, show (n + 1) * 6 + 5 = n * 6 + 5 + 1 + 1 + 1 + 1 + 1 + 1 by omega]
    simp only [List.set_cons_succ]
theorem flatP_oneCell (l : Pairs) : ∀ u ∈ flatP l, u.oneCell' = true := by
  intro u hu
  obtain ⟨x, _, hx⟩ := List.mem_flatMap.1 hu
  simp at hx
  rcases hx with rfl | rfl | rfl | rfl | rfl | rfl <;> rfl
theorem setA_at {L : Pairs} (hk : KeysOK L) {n : Nat} {k v o : Val} (h : L[n]? = some (k, v)) : setA L k o = L.set n (k, o) := by
  obtain ⟨hlt, he⟩ := List.getElem?_eq_some_iff.1 h
  have hL : L = L.take n ++ (k, v) :: L.drop (n + 1) := by rw [← he, ← List.drop_eq_getElem_cons hlt, List.take_append_drop]
  have hn := hk.1
  rw [hL] at hn
  obtain ⟨h1, h2⟩ := not_mem_left hn
  have hr : L.set n (k, o) = L.take n ++ (k, o) :: L.drop (n + 1) := by rw [List.set_eq_take_append_cons_drop, if_pos hlt]
  rw [hr]
  conv => lhs; rw [hL]
  rw [setA_append, setA_off h1, show setA ((k, v) :: L.drop (n + 1)) k o = (k, o) :: setA (L.drop (n + 1)) k o by unfold setA; rw [List.map_cons, if_pos rfl], setA_off h2]
theorem info197 : (Try.prog.info? 197).map (fun i => (i.zero, i.size, i.bytes)) = some (some (.agg #[.int .i64 0, .int .i64 0, .string ByteArray.empty, .int .i64 0, .int .i64 0, .string ByteArray.empty]), 6, 64) := by kernel_rfl
/-- A pair behind a row of pairs. -/
theorem run_append_pair (w : World) (base b : Nat) (x : Val × Val) (hb : Blk w b 197 (pcells x)) (v : Value) (L : Pairs) (ho : w.ownsRow base 197 6 v L.length (flatP L)) (hl : L.length ≤ 1048576) (hbase : base ≤ w.heap.size) :
    ∃ v' w', (Builtin.append_ #[72, 72] 72 #[v, .slice (some ⟨b, 0, none⟩) 1 1]).run Try.prog w = .ok v' w' ∧ w'.ownsRow base 197 6 v' (L.length + 1) (flatP (L ++ [x])) ∧ w.grownBy w' v.ownBlock ∧ (v'.ownBlock = v.ownBlock ∨ v'.ownBlock = some w.heap.size) := by
  obtain ⟨i0, hi, hz0, hz1, hz2⟩ := info_parts info197
  obtain ⟨v', w', r1, r2, r3, r4, r5⟩ := run_append_own_at (P := Try.prog) w base 72 72 197 i0 _ 6 64 Try.underlying72 hi hz0 hz1 hz2 rfl (by decide) v L.length _ ho ⟨b, 0, none⟩ 1 1 (pcells x) rfl (fun j u hu => by rw [addr0]; exact hb.cell j u hu)
    (fun u hu => flatP_oneCell [x] u (by simpa [flatP] using hu)) (by have : maxLen = 9223372036854775807 := rfl; omega) (by omega) hbase
  refine ⟨v', w', r1, ?_, r3, r5⟩
  rw [flatP_append, show flatP [x] = pcells x by simp [flatP]]
  exact r2
section
variable {w w' : World} {X : Nat → Prop} {rb : Nat} {L : Pairs}
theorem RIn.setv {g cap n : Nat} {k v o : Val} (h : RIn w X rb L (.slice (some ⟨g, 0, none⟩) L.length cap)) (hi : L[n]? = some (k, v)) :
    RIn (((w.setCell ⟨g, n * 6 + 3, none⟩ (.int .i64 o.k)).setCell ⟨g, n * 6 + 4, none⟩ (.int .i64 o.n)).setCell ⟨g, n * 6 + 5, none⟩ (.string o.s)) X rb (L.set n (k, o)) (.slice (some ⟨g, 0, none⟩) L.length cap) := by
  have hlt := (List.getElem?_eq_some_iff.1 hi).1
  have hdg : rb ≠ g := blk_ne_row h.hd h.rows rfl (by decide)
  have hlen := flatP_len L
  refine ⟨((h.hd.setOther hdg _).setOther hdg _).setOther hdg _, ?_, h.ownR, h.ownV, fun b hb => by simpa using h.lt b hb⟩
  rw [← flatP_set o hi, List.length_set]
  exact row_set (row_set (row_set h.rows (by omega) _) (by simp; omega) _) (by simp; omega) _
theorem RIn.replaced {L' : Pairs} {rv rv' : Value} {w1 : World} {C : Nat → Prop} (h : RIn w X rb L rv) (hrow : w1.ownsRow 0 197 6 rv' L'.length (flatP L')) (hC : Chg C w w1) (hCr : ¬ C rb) : RIn (w1.setCell ⟨rb, 0, none⟩ rv') (fun b => X b ∨ rv'.ownBlock = some b) rb L' rv' := by
  have hd1 : Blk w1 rb 74 _ := h.hd.of (hC.block rb h.hd.lt hCr)
  refine ⟨hd1.setSame 0 rv', ownsRow_of hrow (fun g hg => Below.heap_setCell _ _ _ _ (fun e => blk_ne_row hd1 hrow hg (by decide) e.symm)), .inl h.ownR, fun g hg => .inr hg, fun b hb => ?_⟩
  rcases hb with hb | hb
  · simpa using Nat.lt_of_lt_of_le (h.lt b hb) hC.size
  · simpa using (hrow.lt b hb).2
set_option maxHeartbeats 8000000 in
set_option maxRecDepth 20000 in
theorem rset_calls (h : RD w X rb L) (hkk : KeysOK L) (x v : Val) (hL : L.length ≤ 1048575) : Calls Try.prog 112 #[.pointer (some ⟨rb, 0, none⟩), x.v, v.v] w fun e w' => e = .returned (.tuple #[.bool (setF L x v), .int .i64 (keyE x)]) ∧ ∃ X', RD w' X' rb (setL L x v) ∧ (∀ b, X' b → X b ∨ w.heap.size ≤ b) ∧ Chg X w w' := by
  have HD := Lib.hid h
  have HKY := Lib.hid (fun (W : World) => rkey_calls x W)
  have HO := Lib.hid (fun (W : World) => rown_calls v W)
  have HP := Lib.hid (fun (W : World) (h : RD W X rb L) => rplace_calls h x (by omega))
  have HB0 : Hid (Below w.heap.size w ((w.alloc (.cells #[.int .i64 x.k, .int .i64 x.n, .string x.s] 57)).alloc (.cells #[.int .i64 v.k, .int .i64 v.n, .string v.s] 57))) := Lib.hid (by (repeat (first | exact Below.refl _ _ | (refine Below.alloc ?_ (by simp <;> omega) _))))
  have HX0 : Hid (Blk ((w.alloc (.cells #[.int .i64 x.k, .int .i64 x.n, .string x.s] 57)).alloc (.cells #[.int .i64 v.k, .int .i64 v.n, .string v.s] 57)) w.heap.size 57 [.int .i64 x.k, .int .i64 x.n, .string x.s]) := Lib.hid ((Blk.new w [.int .i64 x.k, .int .i64 x.n, .string x.s] 57).alloc _)
  have HV0 : Hid (Blk ((w.alloc (.cells #[.int .i64 x.k, .int .i64 x.n, .string x.s] 57)).alloc (.cells #[.int .i64 v.k, .int .i64 v.n, .string v.s] 57)) (w.heap.size + 1) 57 [.int .i64 v.k, .int .i64 v.n, .string v.s]) := Lib.hid (by simpa using Blk.new (w.alloc (.cells #[.int .i64 x.k, .int .i64 x.n, .string x.s] 57)) [.int .i64 v.k, .int .i64 v.n, .string v.s] 57)
  cases hbad : x.bad with
  | true =>
    have hF : setF L x v = false := by unfold setF; rw [hbad]; rfl
    have hL : setL L x v = L := by unfold setL; rw [hbad]; rfl
    have hE : keyE x = 15 := by unfold keyE; rw [hbad]; rfl
    rw [hF, hL, hE]
    rw [hE] at HKY
    clear hF hL hE hbad h HP
    generalize keyV x = k at *
    obtain ⟨k1, k2, k3⟩ := k
    obtain ⟨x1, x2, x3⟩ := x
    obtain ⟨v1, v2, v3⟩ := v
    go_enter Try.func112, Try.ntmps112
    go_wp2_with (go_at_call 126; (with_reducible refine (HKY.out _).mono ?_); rintro e w1 ⟨rfl, hb⟩; have HB1 := Lib.hid (HB0.out.trans (hb.mono HB0.out.size)); clear hb; have HB1' : Hid (Below w.heap.size w (w1.alloc (.cells #[.int .i64 k1, .int .i64 k2, .string k3] 57))) := Lib.hid (HB1.out.alloc HB1.out.size _))
    go_ret2
    exact ⟨rfl, X, HD.out.below HB1'.out, fun b hb => .inl hb, Chg.ofBelow HB1'.out⟩
  | false =>
    have hE : keyE x = 0 := by unfold keyE; rw [hbad]; rfl
    rw [hE] at HKY ⊢
    have hsl : setL L x v = match getA L (keyV x) with
      | some _ => setA L (keyV x) v.own
      | none => if v.own.k = 0 then L else L ++ [(keyV x, v.own)] := by unfold setL; rw [hbad]; rfl
    have hsf : setF L x v = ((getA L (keyV x)).isNone && !decide (v.own.k = 0)) := by unfold setF; rw [hbad]; rfl
    have HHIT := Lib.hid (fun (n : Nat) (u : Val) (h2 : L[n]? = some (keyV x, u)) => show setL L x v = L.set n (keyV x, v.own) ∧ setF L x v = false from by
      have hg := (place_hit hkk hbad h2).2.2
      rw [hsl, hsf, hg]; exact ⟨setA_at hkk h2, rfl⟩)
    have HMIS := Lib.hid (fun (hm : x.bad = true ∨ ∀ p ∈ L, p.1 ≠ keyV x) => show (setL L x v = if v.own.k = 0 then L else L ++ [(keyV x, v.own)]) ∧ setF L x v = !decide (v.own.k = 0) from by
      have hg : getA L (keyV x) = none := (place_miss hm).2.2.resolve_left (by rw [hbad]; decide)
      rw [hsl, hsf, hg]; exact ⟨rfl, rfl⟩)
    clear hE hbad hsl hsf h
    obtain ⟨SF, hSF⟩ : ∃ z, setF L x v = z := ⟨_, rfl⟩
    obtain ⟨SL, hSL⟩ : ∃ z, setL L x v = z := ⟨_, rfl⟩
    rw [hSF, hSL] at HHIT HMIS ⊢
    clear hSF hSL
    obtain ⟨k, hk⟩ : ∃ k, keyV x = k := ⟨_, rfl⟩
    obtain ⟨o, ho⟩ : ∃ o, v.own = o := ⟨_, rfl⟩
    have HKV := Lib.hid hk
    rw [hk] at HHIT HMIS HKY
    rw [ho] at HHIT HMIS HO
    clear hk ho
    obtain ⟨k1, k2, k3⟩ := k
    obtain ⟨o1, o2, o3⟩ := o
    obtain ⟨x1, x2, x3⟩ := x
    obtain ⟨v1, v2, v3⟩ := v
    go_enter Try.func112, Try.ntmps112
    go_upto_region 5 with (first
      | (go_at_call 126; (with_reducible refine (HKY.out _).mono ?_); rintro e w1 ⟨rfl, hb⟩; have HB1 := Lib.hid (HB0.out.trans (hb.mono HB0.out.size)); have HV1 := Lib.hid (HV0.out.of (hb.block _ HV0.out.lt)); have HX1 := Lib.hid (HX0.out.of (hb.block _ HX0.out.lt)); clear hb; have HB1' : Hid (Below w.heap.size w (w1.alloc (.cells #[.int .i64 k1, .int .i64 k2, .string k3] 57))) := Lib.hid (HB1.out.alloc HB1.out.size _); have HK1 := Lib.hid (Blk.new w1 [.int .i64 k1, .int .i64 k2, .string k3] 57); have HV1' := Lib.hid (HV1.out.alloc (.cells #[.int .i64 k1, .int .i64 k2, .string k3] 57)); have HX1' := Lib.hid (HX1.out.alloc (.cells #[.int .i64 k1, .int .i64 k2, .string k3] 57)); have y0 := HV1'.out.cell 0 _ rfl; have y1 := HV1'.out.cell 1 _ rfl; have y2 := HV1'.out.cell 2 _ rfl)
      | (go_at_call 127; (with_reducible refine (HO.out _).mono ?_); rintro e w2 ⟨rfl, hb⟩; have HB2 := Lib.hid (HB1'.out.trans (hb.mono HB1'.out.size)); have HK2 := Lib.hid (HK1.out.of (hb.block _ HK1.out.lt)); have HV2 := Lib.hid (HV1'.out.of (hb.block _ HV1'.out.lt)); have HX2 := Lib.hid (HX1'.out.of (hb.block _ HX1'.out.lt)); clear hb; have z0 := HV2.out.cell 0 _ rfl; have z1 := HV2.out.cell 1 _ rfl; have z2 := HV2.out.cell 2 _ rfl; have f0 := HV2.out.frozen 0; have f1 := HV2.out.frozen 1; have f2 := HV2.out.frozen 2))
    have hbv : w1.heap.size ≠ w.heap.size + 1 := by have := HV1.out.lt; omega
    have hbx : w.heap.size ≠ w.heap.size + 1 := by omega
    have HVW := Lib.hid (((HV2.out.setSame 0 (.int .i64 o1)).setSame 1 (.int .i64 o2)).setSame 2 (.string o3))
    have HKW := Lib.hid (((HK2.out.setOther (a := ⟨w.heap.size + 1, 0, none⟩) hbv (.int .i64 o1)).setOther (a := ⟨w.heap.size + 1, 1, none⟩) hbv (.int .i64 o2)).setOther (a := ⟨w.heap.size + 1, 2, none⟩) hbv (.string o3))
    have HXW := Lib.hid (((HX2.out.setOther (a := ⟨w.heap.size + 1, 0, none⟩) hbx (.int .i64 o1)).setOther (a := ⟨w.heap.size + 1, 1, none⟩) hbx (.int .i64 o2)).setOther (a := ⟨w.heap.size + 1, 2, none⟩) hbx (.string o3))
    have HBW : Hid (Below w.heap.size w (((w2.setCell ⟨w.heap.size + 1, 0, none⟩ (.int .i64 o1)).setCell ⟨w.heap.size + 1, 1, none⟩ (.int .i64 o2)).setCell ⟨w.heap.size + 1, 2, none⟩ (.string o3))) := Lib.hid (((HB2.out.setCell (by simp) _).setCell (by simp) _).setCell (by simp) _)
    generalize ((w2.setCell ⟨w.heap.size + 1, 0, none⟩ (.int .i64 o1)).setCell ⟨w.heap.size + 1, 1, none⟩ (.int .i64 o2)).setCell ⟨w.heap.size + 1, 2, none⟩ (.string o3) = W at *
    have hbl : w1.heap.size < W.heap.size := HKW.out.lt
    have hvl : w.heap.size + 1 < W.heap.size := HVW.out.lt
    have hbw : w.heap.size ≤ w1.heap.size := HB1.out.size
    generalize w1.heap.size = bk at *
    generalize hbb : w.heap.size + 1 = bv at *
    have HBB := Lib.hid hbb
    have x0' := HXW.out.cell 0 _ rfl
    have x1' := HXW.out.cell 1 _ rfl
    have x2' := HXW.out.cell 2 _ rfl
    clear z0 z1 z2 f0 f1 f2 y0 y1 y2 HB2 HK2 HV2 HX2 HV1' HX1' HK1 HB1' HV1 HX1 HB1 hbb hbx
    go_upto_region 6 with (go_at_call 149; (with_reducible refine (HP.out _ (HD.out.below HBW.out)).mono ?_); rintro e w3 ⟨i, rfl, hp, hb⟩; have HB3 := Lib.hid (HBW.out.trans (hb.mono HBW.out.size)); have HK3 := Lib.hid (HKW.out.of (hb.block _ HKW.out.lt)); have HV3 := Lib.hid (HVW.out.of (hb.block _ HVW.out.lt)); have HSZ := Lib.hid hb.size; have HPI := Lib.hid hp; clear hb hp)
    clear x0' x1' x2' HXW HX0 HV0 HB0 HKY HO HP HVW HKW
    obtain ⟨rv, hri⟩ := HD.out.below HB3.out
    have HI := Lib.hid hri
    have hbl3 : bk < w3.heap.size := HK3.out.lt
    have hvl3 : bv < w3.heap.size := HV3.out.lt
    clear hri hbl hvl
    rcases HPI.out with ⟨_, n, v0, rfl, hn⟩ | ⟨rfl, hm⟩
    · rw [HKV.out] at hn
      obtain ⟨rfl, rfl⟩ := HHIT.out n v0 hn
      obtain ⟨g, cap, hrv, _⟩ := HI.out.cell hn
      subst hrv
      have HN := Lib.hid hn
      have hlt := (List.getElem?_eq_some_iff.1 hn).1
      obtain ⟨m, hm⟩ : ∃ m, m = L.length := ⟨_, rfl⟩
      have EM := Lib.hid hm
      rw [← hm] at hlt hL
      have hn0 : (0 : Int) ≤ (n : Int) := by omega
      have hn1 : (n : Int) < (m : Int) := by omega
      have hcap : m ≤ cap ∧ cap ≤ 9223372036854775807 := by
        obtain ⟨_, _, hre, hc1, hc2⟩ := HI.out.form
        rw [(Value.slice.inj hre).2.2, hm]; exact ⟨hc1, hc2⟩
      obtain ⟨hcap1, hcap2⟩ := hcap
      clear hn hm HHIT HMIS
      go_upto_region 7 with (fail)
      have hB0 : Below w3.heap.size w3 ({ w3 with drawn := w3.drawn + 1 } : World) := ⟨rfl, rfl, rfl, Nat.le_refl _, fun _ _ => rfl⟩
      have q0 : ∀ W, Below w3.heap.size w3 W → W.cell? ⟨rb, 0, none⟩ = some (.slice (some ⟨g, 0, none⟩) m cap) := fun W hW => by rw [EM.out]; exact (HI.out.below hW).hd.cell 0 _ rfl
      have p0 : ∀ W, Below w3.heap.size w3 W → W.cell? ⟨bv, 0, none⟩ = some (.int .i64 o1) := fun W hW => (HV3.out.of (hW.block _ HV3.out.lt)).cell 0 _ rfl
      have p1 : ∀ W, Below w3.heap.size w3 W → W.cell? ⟨bv, 1, none⟩ = some (.int .i64 o2) := fun W hW => (HV3.out.of (hW.block _ HV3.out.lt)).cell 1 _ rfl
      have p2 : ∀ W, Below w3.heap.size w3 W → W.cell? ⟨bv, 2, none⟩ = some (.string o3) := fun W hW => (HV3.out.of (hW.block _ HV3.out.lt)).cell 2 _ rfl
      have HC0 := Lib.hid (HB3.out.trans (hB0.mono HB3.out.size))
      have HI4 := Lib.hid (HI.out.below hB0)
      refine RG.region_F (Below w3.heap.size w3) 8 (by kernel_rfl) ?_
      have hS0 := hB0
      generalize ({ w3 with drawn := w3.drawn + 1 } : World) = w4 at *
      refine RG.takeF 0 (oi := ⟨some 26, _, _, _, _, _⟩) (v := ?_) rfl (by kernel_rfl) (by kernel_rfl) (by kernel_rfl) (by kernel_rfl) (fun _ _ _ h => h) (Or.inl ⟨by rfl, ?hyA0⟩) hS0 ?restA0
      case hyA0 => (intro W hW; (try dsimp only at hW); go_simp; try with_reducible rfl)
      simp only [Act.put, List.setIfInBounds_toArray, List.set_cons_zero, List.set_cons_succ]
      refine RG.takeF 1 (oi := ⟨some 27, _, _, _, _, _⟩) (v := ?_) rfl (by kernel_rfl) (by kernel_rfl) (by kernel_rfl) (by kernel_rfl) (fun _ _ _ h => h) (Or.inl ⟨by rfl, ?hyA1⟩) hS0 ?restA1
      case hyA1 => (intro W hW; (try dsimp only at hW); go_simp; try with_reducible rfl)
      simp only [Act.put, List.setIfInBounds_toArray, List.set_cons_zero, List.set_cons_succ]
      refine RG.takeF 2 (oi := ⟨some 28, _, _, _, _, _⟩) (v := ?_) rfl (by kernel_rfl) (by kernel_rfl) (by kernel_rfl) (by kernel_rfl) (fun _ _ _ h => h) (Or.inl ⟨by rfl, ?hyA2⟩) hS0 ?restA2
      case hyA2 => (intro W hW; (try dsimp only at hW); go_simp; try with_reducible rfl)
      simp only [Act.put, List.setIfInBounds_toArray, List.set_cons_zero, List.set_cons_succ]
      refine RG.takeF 3 (oi := ⟨some 29, _, _, _, _, _⟩) (v := ?_) rfl (by kernel_rfl) (by kernel_rfl) (by kernel_rfl) (by kernel_rfl) (fun _ _ _ h => h) (Or.inl ⟨by rfl, ?hyA3⟩) hS0 ?restA3
      case hyA3 => (intro W hW; (try dsimp only at hW); go_simp; try with_reducible rfl)
      simp only [Act.put, List.setIfInBounds_toArray, List.set_cons_zero, List.set_cons_succ]
      refine RG.takeF 4 (oi := ⟨some 30, _, _, _, _, _⟩) (v := ?_) rfl (by kernel_rfl) (by kernel_rfl) (by kernel_rfl) (by kernel_rfl) (fun _ _ _ h => h) (Or.inl ⟨by rfl, ?hyA4⟩) hS0 ?restA4
      case hyA4 => (intro W hW; (try dsimp only at hW); go_simp; try with_reducible rfl)
      simp only [Act.put, List.setIfInBounds_toArray, List.set_cons_zero, List.set_cons_succ]
      refine RG.takeF 5 (oi := ⟨some 31, _, _, _, _, _⟩) (v := ?_) rfl (by kernel_rfl) (by kernel_rfl) (by kernel_rfl) (by kernel_rfl) (fun _ _ _ h => h) (Or.inl ⟨by rfl, ?hyA5⟩) hS0 ?restA5
      case hyA5 => (intro W hW; (try dsimp only at hW); go_simp; try with_reducible rfl)
      simp only [Act.put, List.setIfInBounds_toArray, List.set_cons_zero, List.set_cons_succ]
      refine RG.oneF 6 (by kernel_rfl) (by decide) ?_
      refine RG.wpOp_plain rfl rfl fun K hK => ?_
      go_simp
      refine hK _ _ ⟨hS0, ?_⟩
      clear hK K
      try simp only [Act.put, List.setIfInBounds_toArray, List.set_cons_zero, List.set_cons_succ]
      refine RG.oneF 7 (by kernel_rfl) (by decide) ?_
      refine RG.wpOp_plain rfl rfl fun K hK => ?_
      go_simp
      refine hK _ _ ⟨hS0, ?_⟩
      clear hK K
      try simp only [Act.put, List.setIfInBounds_toArray, List.set_cons_zero, List.set_cons_succ]
      obtain ⟨g', cap', he, hcl⟩ := HI4.out.cell HN.out
      cases he
      have y3 := hcl 3 _ (by decide) rfl
      have y4 := hcl 4 _ (by decide) rfl
      have y5 := hcl 5 _ (by decide) rfl
      have r3 := row_frozen HI4.out.rows (n * 6 + 3)
      have r4 := row_frozen HI4.out.rows (n * 6 + 4)
      have r5 := row_frozen HI4.out.rows (n * 6 + 5)
      clear hcl
      refine RG.lastF (by kernel_rfl) (by kernel_rfl) ?_
      refine RG.wpOp_plain rfl rfl fun K hK => ?_
      go_simp
      refine hK _ _ ?_
      clear hK K
      try simp only [Act.put, List.setIfInBounds_toArray, List.set_cons_zero, List.set_cons_succ]
      clear q0 p0 p1 p2
      go_wp2
      go_ret2
      have hg : X g := HI4.out.ownV g rfl
      refine ⟨rfl, X, ⟨_, HI4.out.setv (o := ⟨o1, o2, o3⟩) HN.out⟩, fun b hb => .inl hb, ?_⟩
      exact ((((Chg.ofBelow HC0.out).setCell (fun _ => hg) _).setCell (fun _ => hg) _).setCell (fun _ => hg) _)
    · rw [HKV.out] at hm
      obtain ⟨e1, e2⟩ := HMIS.out hm
      have z0 := HV3.out.cell 0 _ rfl
      by_cases ho0 : o1 = 0
      · subst ho0
        rw [if_pos rfl] at e1
        rw [decide_eq_true (show (⟨0, o2, o3⟩ : Val).k = 0 from rfl)] at e2
        subst e1 e2
        clear hm HHIT HMIS HPI
        go_wp2_with fail
        go_ret2
        exact ⟨rfl, X, ⟨rv, HI.out⟩, fun b hb => .inl hb, Chg.ofBelow HB3.out⟩
      · rw [if_neg (show ¬ (⟨o1, o2, o3⟩ : Val).k = 0 from ho0)] at e1
        rw [show decide ((⟨o1, o2, o3⟩ : Val).k = 0) = false from decide_eq_false ho0] at e2
        subst e1 e2
        have ho0' : (o1 == 0) = false := by simp [ho0]
        obtain ⟨ra, rc, hrv, hrc1, hrc2⟩ := HI.out.form
        subst hrv
        clear hm HHIT HMIS HPI
        go_upto_region 11 with (fail)
        have hB0 : Below w3.heap.size w3 ({ w3 with drawn := w3.drawn + 1 } : World) := ⟨rfl, rfl, rfl, Nat.le_refl _, fun _ _ => rfl⟩
        have HIC := Lib.hid (HI.out.below hB0)
        have HKC := Lib.hid (HK3.out.of (hB0.block _ HK3.out.lt))
        have HVC := Lib.hid (HV3.out.of (hB0.block _ HV3.out.lt))
        have HCC : Hid (Chg X w ({ w3 with drawn := w3.drawn + 1 } : World)) := Lib.hid (Chg.ofBelow (HB3.out.trans (hB0.mono HB3.out.size)))
        refine RG.region_F (Chg (fun b => (Value.slice ra L.length rc).ownBlock = some b) ({ w3 with drawn := w3.drawn + 1 } : World)) 12 (by kernel_rfl) ?_
        clear hB0 z0
        generalize ({ w3 with drawn := w3.drawn + 1 } : World) = wc at *
        have q0 : ∀ W, Chg (fun b => (Value.slice ra L.length rc).ownBlock = some b) wc W → W.cell? ⟨rb, 0, none⟩ = some (.slice ra L.length rc) := fun W hW => (HIC.out.hd.of (hW.block _ HIC.out.hd.lt (fun hg => blk_ne_row HIC.out.hd HIC.out.rows hg (by decide) rfl))).cell 0 _ rfl
        have qk : ∀ W, Chg (fun b => (Value.slice ra L.length rc).ownBlock = some b) wc W → Blk W bk 57 [.int .i64 k1, .int .i64 k2, .string k3] := fun W hW => HKC.out.of (hW.block _ HKC.out.lt (fun hg => blk_ne_row HKC.out HIC.out.rows hg (by decide) rfl))
        have qv : ∀ W, Chg (fun b => (Value.slice ra L.length rc).ownBlock = some b) wc W → Blk W bv 57 [.int .i64 o1, .int .i64 o2, .string o3] := fun W hW => HVC.out.of (hW.block _ HVC.out.lt (fun hg => blk_ne_row HVC.out HIC.out.rows hg (by decide) rfl))
        have q1 : ∀ W, Chg (fun b => (Value.slice ra L.length rc).ownBlock = some b) wc W → W.cell? ⟨bk, 0, none⟩ = some (.int .i64 k1) := fun W hW => (qk W hW).cell 0 _ rfl
        have q2 : ∀ W, Chg (fun b => (Value.slice ra L.length rc).ownBlock = some b) wc W → W.cell? ⟨bk, 1, none⟩ = some (.int .i64 k2) := fun W hW => (qk W hW).cell 1 _ rfl
        have q3 : ∀ W, Chg (fun b => (Value.slice ra L.length rc).ownBlock = some b) wc W → W.cell? ⟨bk, 2, none⟩ = some (.string k3) := fun W hW => (qk W hW).cell 2 _ rfl
        have q4 : ∀ W, Chg (fun b => (Value.slice ra L.length rc).ownBlock = some b) wc W → W.cell? ⟨bv, 0, none⟩ = some (.int .i64 o1) := fun W hW => (qv W hW).cell 0 _ rfl
        have q5 : ∀ W, Chg (fun b => (Value.slice ra L.length rc).ownBlock = some b) wc W → W.cell? ⟨bv, 1, none⟩ = some (.int .i64 o2) := fun W hW => (qv W hW).cell 1 _ rfl
        have q6 : ∀ W, Chg (fun b => (Value.slice ra L.length rc).ownBlock = some b) wc W → W.cell? ⟨bv, 2, none⟩ = some (.string o3) := fun W hW => (qv W hW).cell 2 _ rfl
        have hS0 : Chg (fun b => (Value.slice ra L.length rc).ownBlock = some b) wc wc := Chg.refl _ _
        clear qk qv
        refine RG.takeF 0 (oi := ⟨some 37, _, _, _, _, _⟩) (v := ?_) rfl (by kernel_rfl) (by kernel_rfl) (by kernel_rfl) (by kernel_rfl) (fun _ _ _ h => h) (Or.inl ⟨by rfl, ?hyB0⟩) hS0 ?restB0
        case hyB0 => (intro W hW; (try dsimp only at hW); go_simp; try with_reducible rfl)
        simp only [Act.put, List.setIfInBounds_toArray, List.set_cons_zero, List.set_cons_succ]
        refine RG.takeF 1 (oi := ⟨some 38, _, _, _, _, _⟩) (v := ?_) rfl (by kernel_rfl) (by kernel_rfl) (by kernel_rfl) (by kernel_rfl) (fun _ _ _ h => h) (Or.inl ⟨by rfl, ?hyB1⟩) hS0 ?restB1
        case hyB1 => (intro W hW; (try dsimp only at hW); go_simp; try with_reducible rfl)
        simp only [Act.put, List.setIfInBounds_toArray, List.set_cons_zero, List.set_cons_succ]
        refine RG.takeF 2 (oi := ⟨some 39, _, _, _, _, _⟩) (v := ?_) rfl (by kernel_rfl) (by kernel_rfl) (by kernel_rfl) (by kernel_rfl) (fun _ _ _ h => h) (Or.inl ⟨by rfl, ?hyB2⟩) hS0 ?restB2
        case hyB2 => (intro W hW; (try dsimp only at hW); go_simp; try with_reducible rfl)
        simp only [Act.put, List.setIfInBounds_toArray, List.set_cons_zero, List.set_cons_succ]
        refine RG.takeF 3 (oi := ⟨some 40, _, _, _, _, _⟩) (v := ?_) rfl (by kernel_rfl) (by kernel_rfl) (by kernel_rfl) (by kernel_rfl) (fun _ _ _ h => h) (Or.inl ⟨by rfl, ?hyB3⟩) hS0 ?restB3
        case hyB3 => (intro W hW; (try dsimp only at hW); go_simp; try with_reducible rfl)
        simp only [Act.put, List.setIfInBounds_toArray, List.set_cons_zero, List.set_cons_succ]
        refine RG.takeF 4 (oi := ⟨some 41, _, _, _, _, _⟩) (v := ?_) rfl (by kernel_rfl) (by kernel_rfl) (by kernel_rfl) (by kernel_rfl) (fun _ _ _ h => h) (Or.inl ⟨by rfl, ?hyB4⟩) hS0 ?restB4
        case hyB4 => (intro W hW; (try dsimp only at hW); go_simp; try with_reducible rfl)
        simp only [Act.put, List.setIfInBounds_toArray, List.set_cons_zero, List.set_cons_succ]
        refine RG.takeF 5 (oi := ⟨some 42, _, _, _, _, _⟩) (v := ?_) rfl (by kernel_rfl) (by kernel_rfl) (by kernel_rfl) (by kernel_rfl) (fun _ _ _ h => h) (Or.inl ⟨by rfl, ?hyB5⟩) hS0 ?restB5
        case hyB5 => (intro W hW; (try dsimp only at hW); go_simp; try with_reducible rfl)
        simp only [Act.put, List.setIfInBounds_toArray, List.set_cons_zero, List.set_cons_succ]
        refine RG.takeF 6 (oi := ⟨some 43, _, _, _, _, _⟩) (v := ?_) rfl (by kernel_rfl) (by kernel_rfl) (by kernel_rfl) (by kernel_rfl) (fun _ _ _ h => h) (Or.inl ⟨by rfl, ?hyB6⟩) hS0 ?restB6
        case hyB6 => (intro W hW; (try dsimp only at hW); go_simp; try with_reducible rfl)
        simp only [Act.put, List.setIfInBounds_toArray, List.set_cons_zero, List.set_cons_succ]
        refine RG.takeF 7 (oi := ⟨some 44, _, _, _, _, _⟩) (v := ?_) rfl (by kernel_rfl) (by kernel_rfl) (by kernel_rfl) (by kernel_rfl) (fun _ _ _ h => h) (Or.inl ⟨by rfl, ?hyB7⟩) hS0 ?restB7
        case hyB7 => (intro W hW; (try dsimp only at hW); go_simp; try with_reducible rfl)
        simp only [Act.put, List.setIfInBounds_toArray, List.set_cons_zero, List.set_cons_succ]
        have hrow := (HIC.out.rows).alloc (.cells #[.int .i64 k1, .int .i64 k2, .string k3, .int .i64 o1, .int .i64 o2, .string o3] 197)
        have hnb : Blk (wc.alloc (.cells #[.int .i64 k1, .int .i64 k2, .string k3, .int .i64 o1, .int .i64 o2, .string o3] 197)) wc.heap.size 197 (pcells (⟨k1, k2, k3⟩, ⟨o1, o2, o3⟩)) := Blk.new wc (pcells (⟨k1, k2, k3⟩, ⟨o1, o2, o3⟩)) 197
        have hS1 : Chg (fun b => (Value.slice ra L.length rc).ownBlock = some b) wc (wc.alloc (.cells #[.int .i64 k1, .int .i64 k2, .string k3, .int .i64 o1, .int .i64 o2, .string o3] 197)) := hS0.alloc _
        refine RG.oneF 8 (by kernel_rfl) (by decide) ?_
        refine RG.wpOp_plain rfl rfl fun K hK => ?_
        go_simp
        refine hK _ _ ⟨hS1, ?_⟩
        clear hK K
        try simp only [Act.put, List.setIfInBounds_toArray, List.set_cons_zero, List.set_cons_succ]
        obtain ⟨v', wd, r, o, gr, hat'⟩ := run_append_pair _ 0 _ _ hnb _ _ hrow (by omega) (Nat.zero_le _)
        refine RG.oneF 9 (by kernel_rfl) (by decide) ?_
        refine RG.wpOp_plain rfl rfl fun K hK => ?_
        refine RG.wp_append_run _ _ 72 72 rfl rfl rfl r ?_
        have hS2 := hS1.grown gr (fun q hq _ => hq)
        refine hK _ _ ⟨hS2, ?_⟩
        clear hK K
        try simp only [Act.put, List.setIfInBounds_toArray, List.set_cons_zero, List.set_cons_succ]
        refine RG.oneF 10 (by kernel_rfl) (by decide) ?_
        refine RG.wpOp_plain rfl rfl fun K hK => ?_
        go_simp
        refine hK _ _ ⟨hS2, ?_⟩
        clear hK K
        try simp only [Act.put, List.setIfInBounds_toArray, List.set_cons_zero, List.set_cons_succ]
        refine RG.oneF 11 (by kernel_rfl) (by decide) ?_
        refine RG.wpOp_plain rfl rfl fun K hK => ?_
        go_simp
        refine hK _ _ ⟨hS2, ?_⟩
        clear hK K
        try simp only [Act.put, List.setIfInBounds_toArray, List.set_cons_zero, List.set_cons_succ]
        have HAT2 : Hid (∀ g, v'.ownBlock = some g → (Value.slice ra L.length rc).ownBlock = some g ∨ wc.heap.size ≤ g) := Lib.hid (fun g hg => by
          rcases hat' with h | h
          · exact .inl (h.symm.trans hg)
          · refine .inr ?_
            have h1 := Option.some.inj (hg.symm.trans h)
            rw [h1]; simp)
        have hdn : ¬ ((Value.slice ra L.length rc).ownBlock = some rb) := fun hg => blk_ne_row HIC.out.hd HIC.out.rows hg (by decide) rfl
        have hdd := HIC.out.hd.of (hS2.block _ HIC.out.hd.lt hdn)
        have HFIN := Lib.hid (HIC.out.replaced (L' := L ++ [(⟨k1, k2, k3⟩, ⟨o1, o2, o3⟩)]) (by rw [List.length_append, List.length_singleton]; exact o) hS2 hdn)
        have x0 := hdd.cell 0 _ rfl
        have f0 := hdd.frozen 0
        have HC2 := Lib.hid hS2
        clear r gr hat' o hrow hnb hS1 hdd
        obtain ⟨na, nn, nc, rfl⟩ : ∃ na nn nc, v' = .slice na nn nc := by
          obtain ⟨a, c, h, _⟩ := HFIN.out.form
          exact ⟨a, _, c, h⟩
        refine RG.lastF (by kernel_rfl) (by kernel_rfl) ?_
        refine RG.wpOp_plain rfl rfl fun K hK => ?_
        go_simp
        refine hK _ _ ?_
        clear hK K
        try simp only [Act.put, List.setIfInBounds_toArray, List.set_cons_zero, List.set_cons_succ]
        clear q0 q1 q2 q3 q4 q5 q6 x0 f0 hS0 hS2
        go_wp2
        go_ret2
        refine ⟨rfl, _, ⟨_, HFIN.out⟩, fun b hb => ?_, ?_⟩
        · rcases hb with hb | hb
          · exact .inl hb
          · rcases HAT2.out b hb with h | h
            · exact .inl (HIC.out.ownV b h)
            · exact .inr (Nat.le_trans HCC.out.size h)
        · exact (HCC.out.trans HC2.out (fun b h1 h2 => HIC.out.ownV b h2)).setCell (fun _ => HIC.out.ownR) _
end
end Go.Proofs.Ytmjfmfelbmbniaa
