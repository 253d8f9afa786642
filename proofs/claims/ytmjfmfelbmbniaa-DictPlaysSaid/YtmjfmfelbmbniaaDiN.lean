/- Layer 13: Next. -/
import Derived.Test.YtmjfmfelbmbniaaDiD
namespace Go.Proofs.Ytmjfmfelbmbniaa
open Go.RowKit Go.Maps HK ShM
set_option linter.unusedVariables false
set_option linter.unusedSimpArgs false
def firstLive (L : Pairs) : Val × Val := (L.find? (fun x => decide (x.2.k ≠ 0))).getD (Val.nil, Val.nil)
def behind (L : Pairs) (k : Val) : Pairs := (L.dropWhile (fun x => decide (x.1 ≠ k))).drop 1
def nextM (L : Pairs) (x : Val) : (Val × Val) × Int := if x.k = 0 then (firstLive L, 0) else if hasK L x then (firstLive (behind L (keyV x)), 0) else ((Val.nil, Val.nil), 15)
theorem behind_es : ∀ {es : List Ent} {i : Nat} {k v : Val}, Uniq es → es.getD i none = some (k, v) → behind (absE es) k = absE (es.drop (i + 1))
  | [], i, k, v, _, h => by simp at h
  | none :: r, 0, k, v, _, h => by simp at h
  | none :: r, i + 1, k, v, hu, h => by
    rw [absE_none, List.drop_succ_cons]
    exact behind_es (uniq_tail hu) (by simpa using h)
  | some x :: r, 0, k, v, hu, h => by
    simp at h; subst h
    simp [behind, absE_some]
  | some x :: r, i + 1, k, v, hu, h => by
    obtain ⟨a, b⟩ := x
    have hx : a ≠ k := fun e => by subst e; exact uniq_head hu i v (by simpa using h)
    have := behind_es (uniq_tail hu) (i := i) (k := k) (v := v) (by simpa using h)
    rw [List.drop_succ_cons, ← this, absE_some]
    unfold behind
    rw [List.dropWhile_cons_of_pos (by simpa using hx)]
theorem first_skip {es : List Ent} {j : Nat} {x : Ent} (hj : es[j]? = some x) (hx : ∀ k v, x = some (k, v) → v.k = 0) : firstLive (absE (es.drop (j + 1))) = firstLive (absE (es.drop j)) := by
  obtain ⟨hlt, he⟩ := List.getElem?_eq_some_iff.1 hj
  rw [List.drop_eq_getElem_cons hlt, he]
  cases x with
  | none => rw [absE_none]
  | some y =>
    obtain ⟨k, v⟩ := y
    have := hx k v rfl
    rw [absE_some]
    simp [firstLive, this]
theorem first_hit {es : List Ent} {j : Nat} {k v : Val} (hj : es[j]? = some (some (k, v))) (hv : v.k ≠ 0) : firstLive (absE (es.drop j)) = (k, v) := by
  obtain ⟨hlt, he⟩ := List.getElem?_eq_some_iff.1 hj
  rw [List.drop_eq_getElem_cons hlt, he, absE_some]
  simp [firstLive, hv]
theorem first_end {es : List Ent} {j : Nat} (hj : es.length ≤ j) : firstLive (absE (es.drop j)) = (Val.nil, Val.nil) := by
  rw [List.drop_eq_nil_of_le hj]; rfl
/-- Results that lie in two variables of three cells and a temporary. -/
theorem results_val3 {fn : Func} {t s u : Tmp} {b c : Nat} {x y : Val} {z : Value} (hr : fn.results = #[.cell t 57, .cell s 57, .tmp u]) (tmps : Array Value) (ht : tmps.getD t undef = .pointer (some ⟨b, 0, none⟩)) (hs : tmps.getD s undef = .pointer (some ⟨c, 0, none⟩)) (hu : tmps.getD u undef = z) {w : World} (h : Blk w b 57 x.cells) (h' : Blk w c 57 y.cells) :
    (results fn tmps).run Try.prog w = .ok (.tuple #[x.v, y.v, z]) w := by
  have x0 := h.cell 0 _ rfl
  have x1 := h.cell 1 _ rfl
  have x2 := h.cell 2 _ rfl
  have y0 := h'.cell 0 _ rfl
  have y1 := h'.cell 1 _ rfl
  have y2 := h'.cell 2 _ rfl
  have ht' : tmps[t]?.getD undef = .pointer (some ⟨b, 0, none⟩) := (RG.getD_form ⟨tmps, []⟩ t).symm.trans ht
  have hs' : tmps[s]?.getD undef = .pointer (some ⟨c, 0, none⟩) := (RG.getD_form ⟨tmps, []⟩ s).symm.trans hs
  have hu' : tmps[u]?.getD undef = z := (RG.getD_form ⟨tmps, []⟩ u).symm.trans hu
  simp [results, hr, ht', hs', hu', go_sem, x0, x1, x2, y0, y1, y2]
section
variable {w w' : World} {X : Nat → Prop} {d N : Nat} {L : Pairs}
/-- What the two results' cells hold. -/
structure Two (w : World) (b : Nat) : Prop where
  h4 : Blk w b 57 Val.nil.cells
  h5 : Blk w (b + 1) 57 Val.nil.cells
theorem Two.below {b : Nat} (h : Two w b) (hb : Below w.heap.size w w') : Two w' b := ⟨h.h4.of (hb.block _ h.h4.lt), h.h5.of (hb.block _ h.h5.lt)⟩
set_option maxHeartbeats 4000000 in
set_option maxRecDepth 20000 in
theorem dnext_calls (h : DAt w X d L N) (x : Val) (hx : x.s.size ≤ maxLen) : Calls Try.prog 49 #[.pointer (some ⟨d, 0, none⟩), x.v] w fun e w' => e = .returned (.tuple #[(nextM L x).1.1.v, (nextM L x).1.2.v, .int .i64 (nextM L x).2]) ∧ Below w.heap.size w w' := by
  obtain ⟨es, ev, tb, T, h, hL, hN, ho⟩ := ent_get h x
  have HV := Lib.hid (fun (v : Val) (W : World) => lives_calls v W)
  have HI := Lib.hid h
  have HB0 : Hid (Below w.heap.size w (((w.alloc (.cells #[.int .i64 x.k, .int .i64 x.n, .string x.s] 57)).alloc (.cells #[.int .i64 0, .int .i64 0, .string ⟨#[]⟩] 57)).alloc (.cells #[.int .i64 0, .int .i64 0, .string ⟨#[]⟩] 57))) := Lib.hid (by (repeat (first | exact Below.refl _ _ | (refine Below.alloc ?_ (by simp <;> omega) _))))
  have HTW : Hid (Two (((w.alloc (.cells #[.int .i64 x.k, .int .i64 x.n, .string x.s] 57)).alloc (.cells #[.int .i64 0, .int .i64 0, .string ⟨#[]⟩] 57)).alloc (.cells #[.int .i64 0, .int .i64 0, .string ⟨#[]⟩] 57)) (w.heap.size + 1)) := Lib.hid (by
    have h1 := Blk.new (w.alloc (.cells #[.int .i64 x.k, .int .i64 x.n, .string x.s] 57)) [.int .i64 0, .int .i64 0, .string ⟨#[]⟩] 57
    have h2 := Blk.new ((w.alloc (.cells #[.int .i64 x.k, .int .i64 x.n, .string x.s] 57)).alloc (.cells #[.int .i64 0, .int .i64 0, .string ⟨#[]⟩] 57)) [.int .i64 0, .int .i64 0, .string ⟨#[]⟩] 57
    exact ⟨by simpa using h1.alloc _, by simpa using h2⟩)
  by_cases hk : x.k = 0
  · have hM : nextM L x = (firstLive L, 0) := if_pos hk
    rw [hM]
    have HL : Hid (firstLive L = firstLive (absE (es.drop 0))) := Lib.hid (by rw [List.drop_zero, hL])
    obtain ⟨x1, x2, x3⟩ := x
    have hk : x1 = 0 := hk
    subst hk
    clear hM ho
    obtain ⟨ea, ec, hev⟩ := ownsRow_form h.mem.rows
    subst hev
    have c0 := (h.below HB0.out).mem.hd.cell 0 _ rfl
    clear h
    have HC : Hid (∀ W, Below w.heap.size w W → ∀ j x, es[j]? = some x → ∃ g, ea = some ⟨g, 0, none⟩ ∧ ∀ c u, c < 7 → x.cells[c]? = some u → W.cell? ⟨g, j * 7 + c, none⟩ = some u) := Lib.hid (fun W hW j x hj => by
      obtain ⟨g, cap, he, _, _, hc⟩ := (HI.out.below hW).mem.cell_ent hj
      cases he
      exact ⟨g, rfl, hc⟩)
    obtain ⟨⟨R1, R2⟩, hR⟩ : ∃ R, firstLive L = R := ⟨_, rfl⟩
    rw [hR]
    have HL := Lib.hid (HL.out.symm.trans hR)
    clear hR
    have hecap : es.length ≤ ec ∧ ec ≤ 9223372036854775807 := by
      rcases HI.out.mem.rows.2 with ⟨he, hn⟩ | ⟨g, cap, cur, he, _, _, hc, hm, _⟩
      · simp at he; exact ⟨by omega, by omega⟩
      · cases he; exact ⟨hc, hm⟩
    obtain ⟨hec1, hec2⟩ := hecap
    obtain ⟨m, hm⟩ : ∃ m, m = es.length := ⟨_, rfl⟩
    have EM := Lib.hid hm
    rw [← hm] at c0 hec1
    clear hm
    go_enter Try.func49, Try.ntmps49
    go_wp2_with fail
    go_loopw [50] (fun i wr => ∃ j : Nat, j ≤ m ∧ i = .int .i64 j ∧ Hid (Below w.heap.size w wr ∧ Two wr (w.heap.size + 1) ∧ firstLive (absE (es.drop j)) = (R1, R2))) (fun i _ => m - (intOf i).toNat)
    case atStart => exact ⟨0, Nat.zero_le _, rfl, Lib.hid ⟨HB0.out, HTW.out, HL.out⟩⟩
    case round =>
      obtain ⟨j, hj, rfl, hre⟩ := hrel
      by_cases hlt : j < m
      · have hjl : j < es.length := by rw [← EM.out]; exact hlt
        obtain ⟨y, hy⟩ : ∃ y, es[j]? = some y := ⟨_, List.getElem?_eq_getElem hjl⟩
        obtain ⟨g, rfl, hcell⟩ := HC.out wr hre.out.1 j y hy
        have hj0 : (0 : Int) ≤ (j : Int) := by omega
        have hj1 : (j : Int) < (m : Int) := by omega
        have u0 := hcell 0
        have u1 := hcell 1
        have u2 := hcell 2
        have u3 := hcell 3
        have u4 := hcell 4
        have u5 := hcell 5
        have u6 := hcell 6
        have HY := Lib.hid hy
        clear hcell hjl hy
        cases y with
        | none =>
          have u0 := u0 _ (by decide) rfl
          have u1 := u1 _ (by decide) rfl
          have u2 := u2 _ (by decide) rfl
          have u3 := u3 _ (by decide) rfl
          have u4 := u4 _ (by decide) rfl
          have u5 := u5 _ (by decide) rfl
          have u6 := u6 _ (by decide) rfl
          rw [Nat.add_zero] at u0
          go_wp2_with fail
          go_roundw
          case rel => exact ⟨j + 1, by omega, by go_num, Lib.hid ⟨hre.out.1.alloc hre.out.1.size _, hre.out.2.1.below ((Below.refl _ _).alloc (Nat.le_refl _) _), (first_skip HY.out (fun k v e => by cases e)).trans hre.out.2.2⟩⟩
          case measure => simp [intOf]; omega
        | some kv =>
          obtain ⟨k, v⟩ := kv
          have u0 := u0 _ (by decide) rfl
          have u1 := u1 _ (by decide) rfl
          have u2 := u2 _ (by decide) rfl
          have u3 := u3 _ (by decide) rfl
          have u4 := u4 _ (by decide) rfl
          have u5 := u5 _ (by decide) rfl
          have u6 := u6 _ (by decide) rfl
          rw [Nat.add_zero] at u0
          have hb2 : Below wr.heap.size wr (wr.alloc (.cells #[.int .i64 k.k, .int .i64 k.n, .string k.s, .int .i64 v.k, .int .i64 v.n, .string v.s, .bool true] 190)) := (Below.refl _ _).alloc (Nat.le_refl _) _
          have hbx : Blk (wr.alloc (.cells #[.int .i64 k.k, .int .i64 k.n, .string k.s, .int .i64 v.k, .int .i64 v.n, .string v.s, .bool true] 190)) wr.heap.size 190 [.int .i64 k.k, .int .i64 k.n, .string k.s, .int .i64 v.k, .int .i64 v.n, .string v.s, .bool true] := Blk.new wr [.int .i64 k.k, .int .i64 k.n, .string k.s, .int .i64 v.k, .int .i64 v.n, .string v.s, .bool true] 190
          have HB2 := Lib.hid hb2
          have HBX := Lib.hid hbx
          clear hb2 hbx
          by_cases hvk : v.k = 0
          · have HVV := Lib.hid (fun (W : World) => HV.out v W)
            rw [show v.lives = 0 from if_pos hvk] at HVV
            have HS := Lib.hid ((first_skip HY.out (fun k' v' e => by cases e; exact hvk)).trans hre.out.2.2)
            clear hvk
            obtain ⟨v1, v2, v3⟩ := v
            go_wp2_with (go_at_call 109; (with_reducible refine (HVV.out _).mono ?_); rintro e w4 ⟨rfl, hb⟩; have HB4 := Lib.hid (HB2.out.trans (hb.mono HB2.out.size)); clear hb)
            go_roundw
            case rel => exact ⟨j + 1, by omega, by go_num, Lib.hid ⟨hre.out.1.trans (HB4.out.mono hre.out.1.size), hre.out.2.1.below HB4.out, HS.out⟩⟩
            case measure => simp [intOf]; omega
          · have HVV := Lib.hid (fun (W : World) => HV.out v W)
            rw [show v.lives = 1 from if_neg hvk] at HVV
            have hR := (first_hit HY.out hvk).symm.trans hre.out.2.2
            cases hR
            clear hvk
            obtain ⟨v1, v2, v3⟩ := R2
            obtain ⟨k1, k2, k3⟩ := R1
            go_upto_region 16 with (go_at_call 109; (with_reducible refine (HVV.out _).mono ?_); rintro e w4 ⟨rfl, hb⟩; have HB4 := Lib.hid (HB2.out.trans (hb.mono HB2.out.size)); have HBX4 := Lib.hid (HBX.out.of (hb.block _ HBX.out.lt)); clear hb)
            have HT := Lib.hid (hre.out.2.1.below HB4.out)
            have hne4 : w.heap.size + 1 ≠ wr.heap.size := by have := hre.out.2.1.h4.lt; omega
            have hne5 : w.heap.size + 1 + 1 ≠ wr.heap.size := by have := hre.out.2.1.h5.lt; omega
            have p0 : ∀ W, Blk W wr.heap.size 190 [.int .i64 k1, .int .i64 k2, .string k3, .int .i64 v1, .int .i64 v2, .string v3, .bool true] → W.cell? ⟨wr.heap.size, 0, none⟩ = some (.int .i64 k1) := fun W hW => hW.cell 0 _ rfl
            have p1 : ∀ W, Blk W wr.heap.size 190 [.int .i64 k1, .int .i64 k2, .string k3, .int .i64 v1, .int .i64 v2, .string v3, .bool true] → W.cell? ⟨wr.heap.size, 1, none⟩ = some (.int .i64 k2) := fun W hW => hW.cell 1 _ rfl
            have p2 : ∀ W, Blk W wr.heap.size 190 [.int .i64 k1, .int .i64 k2, .string k3, .int .i64 v1, .int .i64 v2, .string v3, .bool true] → W.cell? ⟨wr.heap.size, 2, none⟩ = some (.string k3) := fun W hW => hW.cell 2 _ rfl
            have p3 : ∀ W, Blk W wr.heap.size 190 [.int .i64 k1, .int .i64 k2, .string k3, .int .i64 v1, .int .i64 v2, .string v3, .bool true] → W.cell? ⟨wr.heap.size, 3, none⟩ = some (.int .i64 v1) := fun W hW => hW.cell 3 _ rfl
            have p4 : ∀ W, Blk W wr.heap.size 190 [.int .i64 k1, .int .i64 k2, .string k3, .int .i64 v1, .int .i64 v2, .string v3, .bool true] → W.cell? ⟨wr.heap.size, 4, none⟩ = some (.int .i64 v2) := fun W hW => hW.cell 4 _ rfl
            have p5 : ∀ W, Blk W wr.heap.size 190 [.int .i64 k1, .int .i64 k2, .string k3, .int .i64 v1, .int .i64 v2, .string v3, .bool true] → W.cell? ⟨wr.heap.size, 5, none⟩ = some (.string v3) := fun W hW => hW.cell 5 _ rfl
            have hS0 : Blk ({ w4 with drawn := w4.drawn + 1 } : World) wr.heap.size 190 [.int .i64 k1, .int .i64 k2, .string k3, .int .i64 v1, .int .i64 v2, .string v3, .bool true] := HBX4.out
            have HB5 : Hid (Below wr.heap.size wr ({ w4 with drawn := w4.drawn + 1 } : World)) := Lib.hid ⟨HB4.out.os, HB4.out.tape, HB4.out.output, HB4.out.size, HB4.out.block⟩
            have HT5 : Hid (Two ({ w4 with drawn := w4.drawn + 1 } : World) (w.heap.size + 1)) := Lib.hid ⟨HT.out.h4, HT.out.h5⟩
            refine RG.region_F (fun W => Blk W wr.heap.size 190 [.int .i64 k1, .int .i64 k2, .string k3, .int .i64 v1, .int .i64 v2, .string v3, .bool true]) 6 (by kernel_rfl) ?_
            generalize ({ w4 with drawn := w4.drawn + 1 } : World) = w5 at hS0 HB5 HT5 ⊢
            clear HB4 HBX4 HT
            refine RG.takeF 0 (oi := ⟨some 62, _, _, _, _, _⟩) (v := ?_) rfl (by kernel_rfl) (by kernel_rfl) (by kernel_rfl) (by kernel_rfl) (fun _ _ _ h => h) (Or.inl ⟨by rfl, ?hy0⟩) hS0 ?rest0
            case hy0 => (intro W hW; (try dsimp only at hW); go_simp; try with_reducible rfl)
            simp only [Act.put, List.setIfInBounds_toArray, List.set_cons_zero, List.set_cons_succ]
            refine RG.takeF 1 (oi := ⟨some 63, _, _, _, _, _⟩) (v := ?_) rfl (by kernel_rfl) (by kernel_rfl) (by kernel_rfl) (by kernel_rfl) (fun _ _ _ h => h) (Or.inl ⟨by rfl, ?hy1⟩) hS0 ?rest1
            case hy1 => (intro W hW; (try dsimp only at hW); go_simp; try with_reducible rfl)
            simp only [Act.put, List.setIfInBounds_toArray, List.set_cons_zero, List.set_cons_succ]
            refine RG.takeF 2 (oi := ⟨some 64, _, _, _, _, _⟩) (v := ?_) rfl (by kernel_rfl) (by kernel_rfl) (by kernel_rfl) (by kernel_rfl) (fun _ _ _ h => h) (Or.inl ⟨by rfl, ?hy2⟩) hS0 ?rest2
            case hy2 => (intro W hW; (try dsimp only at hW); go_simp; try with_reducible rfl)
            simp only [Act.put, List.setIfInBounds_toArray, List.set_cons_zero, List.set_cons_succ]
            refine RG.takeF 3 (oi := ⟨some 65, _, _, _, _, _⟩) (v := ?_) rfl (by kernel_rfl) (by kernel_rfl) (by kernel_rfl) (by kernel_rfl) (fun _ _ _ h => h) (Or.inl ⟨by rfl, ?hy3⟩) hS0 ?rest3
            case hy3 => (intro W hW; (try dsimp only at hW); go_simp; try with_reducible rfl)
            simp only [Act.put, List.setIfInBounds_toArray, List.set_cons_zero, List.set_cons_succ]
            have x0 := HT5.out.h4.cell 0 _ rfl
            have x1 := HT5.out.h4.cell 1 _ rfl
            have x2 := HT5.out.h4.cell 2 _ rfl
            have f0 := HT5.out.h4.frozen 0
            have f1 := HT5.out.h4.frozen 1
            have f2 := HT5.out.h4.frozen 2
            refine RG.oneF 4 (by kernel_rfl) (by decide) ?_
            refine RG.wpOp_plain rfl rfl fun K hK => ?_
            go_simp
            refine hK _ _ ⟨(((hS0.setOther (Ne.symm hne4) _).setOther (Ne.symm hne4) _).setOther (Ne.symm hne4) _), ?_⟩
            clear hK K
            try simp only [Act.put, List.setIfInBounds_toArray, List.set_cons_zero, List.set_cons_succ]
            have hne45 : w.heap.size + 1 + 1 ≠ w.heap.size + 1 := by omega
            have hh5 := ((HT5.out.h5.setOther (a := ⟨w.heap.size + 1, 0, none⟩) hne45 (.int .i64 k1)).setOther (a := ⟨w.heap.size + 1, 1, none⟩) hne45 (.int .i64 k2)).setOther (a := ⟨w.heap.size + 1, 2, none⟩) hne45 (.string k3)
            have y0 := HT5.out.h5.cell 0 _ rfl
            have y1 := HT5.out.h5.cell 1 _ rfl
            have y2 := HT5.out.h5.cell 2 _ rfl
            have g0 := HT5.out.h5.frozen 0
            have g1 := HT5.out.h5.frozen 1
            have g2 := HT5.out.h5.frozen 2
            refine RG.oneF 5 (by kernel_rfl) (by decide) ?_
            refine RG.wpOp_plain rfl rfl fun K hK => ?_
            go_simp
            refine hK _ _ ⟨((((((hS0.setOther (Ne.symm hne4) _).setOther (Ne.symm hne4) _).setOther (Ne.symm hne4) _).setOther (Ne.symm hne5) _).setOther (Ne.symm hne5) _).setOther (Ne.symm hne5) _), ?_⟩
            clear hK K
            try simp only [Act.put, List.setIfInBounds_toArray, List.set_cons_zero, List.set_cons_succ]
            refine RG.lastF (by kernel_rfl) (by kernel_rfl) ?_
            refine RG.wpOp_plain rfl rfl fun K hK => ?_
            go_simp
            refine hK _ _ ?_
            clear hK K
            try simp only [Act.put, List.setIfInBounds_toArray, List.set_cons_zero, List.set_cons_succ]
            have HBZ := Lib.hid (hre.out.1.trans (HB5.out.mono hre.out.1.size))
            go_wp2
            refine bodyPost_ret (results_val3 (x := ⟨k1, k2, k3⟩) (y := ⟨v1, v2, v3⟩) rfl _ rfl rfl rfl ((((((HT5.out.h4.setSame 0 _).setSame 1 _).setSame 2 _).setOther (Ne.symm hne45) _).setOther (Ne.symm hne45) _).setOther (Ne.symm hne45) _) (((hh5.setSame 0 _).setSame 1 _).setSame 2 _)) rfl ⟨rfl, ?_⟩
            exact (((((HBZ.out.setCell (by simp) _).setCell (by simp) _).setCell (by simp) _).setCell (by simp; omega) _).setCell (by simp; omega) _).setCell (by simp; omega) _
      · obtain rfl : j = m := by omega
        have hR := hre.out.2.2
        rw [first_end (by rw [EM.out]; exact Nat.le_refl _)] at hR
        cases hR
        have HT := Lib.hid hre.out.2.1
        have x0 := HT.out.h4.cell 0 _ rfl
        have x1 := HT.out.h4.cell 1 _ rfl
        have x2 := HT.out.h4.cell 2 _ rfl
        have f0 := HT.out.h4.frozen 0
        have f1 := HT.out.h4.frozen 1
        have f2 := HT.out.h4.frozen 2
        have y0 := HT.out.h5.cell 0 _ rfl
        have y1 := HT.out.h5.cell 1 _ rfl
        have y2 := HT.out.h5.cell 2 _ rfl
        have g0 := HT.out.h5.frozen 0
        have g1 := HT.out.h5.frozen 1
        have g2 := HT.out.h5.frozen 2
        have hne45 : w.heap.size + 1 + 1 ≠ w.heap.size + 1 := by omega
        have HBZ := Lib.hid hre.out.1
        go_wp2_with fail
        refine bodyPost_ret (results_val3 (x := Val.nil) (y := Val.nil) rfl _ rfl rfl rfl ((((((HT.out.h4.setSame 0 _).setSame 1 _).setSame 2 _).setOther (Ne.symm hne45) _).setOther (Ne.symm hne45) _).setOther (Ne.symm hne45) _) ((((((HT.out.h5.setOther hne45 _).setOther hne45 _).setOther hne45 _).setSame 0 _).setSame 1 _).setSame 2 _)) rfl ⟨rfl, ?_⟩
        exact (((((HBZ.out.setCell (by simp) _).setCell (by simp) _).setCell (by simp) _).setCell (by simp; omega) _).setCell (by simp; omega) _).setCell (by simp; omega) _
  · have hk0 : (x.k == 0) = false := by simp [hk]
    have hkn : (x.k != 0) = true := by simp [hk]
    have HKY := Lib.hid (fun (W : World) => key_calls x W)
    have HF := Lib.hid (fun (W : World) (h : DIn W X d es ev tb T) => h.find (keyV x) (keyV_size hx))
    rcases ho with ⟨h1, h2, i, v, h3, h4, h5, h6, h7⟩ | ⟨h1, h2, h3, h4⟩
    · have hM : nextM L x = (firstLive (absE (es.drop (i + 1))), 0) := by
        unfold nextM; rw [if_neg hk, if_pos h1, ← behind_es h.uniq (getD_of_get h4), hL]
      have hE : keyE x = 0 := by unfold keyE; rw [h2]; rfl
      have hF : (findM T es (keyV x)).2 = i := by rw [← h5]; unfold entI; rw [h2]; rfl
      rw [hM]
      rw [hE] at HKY
      rw [hF] at HF
      obtain ⟨⟨R1, R2⟩, hR⟩ : ∃ R, firstLive (absE (es.drop (i + 1))) = R := ⟨_, rfl⟩
      rw [hR]
      have HL := Lib.hid hR
      obtain ⟨g, cap, hev, hec1, hec2, _⟩ := h.mem.cell_ent h4
      subst hev
      have HC : Hid (∀ W, Below w.heap.size w W → ∀ j x, es[j]? = some x → ∀ c u, c < 7 → x.cells[c]? = some u → W.cell? ⟨g, j * 7 + c, none⟩ = some u) := Lib.hid (fun W hW j x hj => by
        obtain ⟨g', cap', he, _, _, hc⟩ := (HI.out.below hW).mem.cell_ent hj
        cases he
        exact hc)
      have hec2' : cap ≤ 9223372036854775807 := hec2
      obtain ⟨m, hm⟩ : ∃ m, m = es.length := ⟨_, rfl⟩
      have EM := Lib.hid hm
      rw [← hm] at hec1 h3
      generalize hkv : keyV x = k at *
      generalize (findM T es k).1 = pl at *
      clear h h1 h2 h4 h5 h6 h7 hM hE hF hR hm hec2 hkv hk
      obtain ⟨k1, k2, k3⟩ := k
      obtain ⟨x1, x2, x3⟩ := x
      go_enter Try.func49, Try.ntmps49
      go_wp2_with (first
        | (go_at_call 43; (with_reducible refine (HKY.out _).mono ?_); rintro e w1 ⟨rfl, hb⟩; have HB1 := Lib.hid (HB0.out.trans (hb.mono HB0.out.size)); have HT1 := Lib.hid (HTW.out.below hb); clear hb; have HB2 : Hid (Below w.heap.size w (w1.alloc (.cells #[.int .i64 k1, .int .i64 k2, .string k3] 57))) := Lib.hid (HB1.out.alloc HB1.out.size _); have HT2 := Lib.hid (HT1.out.below ((Below.refl w1.heap.size w1).alloc (Nat.le_refl _) (.cells #[.int .i64 k1, .int .i64 k2, .string k3] 57))))
        | (go_at_call 111; (with_reducible refine (HF.out _ (HI.out.below HB2.out)).mono ?_); rintro e w2 ⟨rfl, hb⟩; have HB3 := Lib.hid (HB2.out.trans (hb.mono HB2.out.size)); have HT3 := Lib.hid (HT2.out.below hb); have c0 := (HI.out.below HB3.out).mem.hd.cell 0 _ rfl; rw [← EM.out] at c0; clear hb))
      case inl =>
        go_loopw [50] (fun ii wr => ∃ j : Nat, i + 1 + j ≤ m ∧ ii = .int .i64 j ∧ Hid (Below w.heap.size w wr ∧ Two wr (w.heap.size + 1) ∧ firstLive (absE (es.drop (i + 1 + j))) = (R1, R2))) (fun ii _ => m - (i + 1) - (intOf ii).toNat)
        case atStart => exact ⟨0, by omega, rfl, Lib.hid ⟨HB3.out, HT3.out, by rw [Nat.add_zero]; exact HL.out⟩⟩
        case round =>
          obtain ⟨j, hj, rfl, hre⟩ := hrel
          by_cases hlt : i + 1 + j < m
          · exfalso; omega
          · obtain hjm : i + 1 + j = m := by omega
            have hj3 : ¬ (j : Int) < (m : Int) - ((i : Int) + 1) := by omega
            have hR := hre.out.2.2
            rw [first_end (by rw [← EM.out]; omega)] at hR
            cases hR
            have HT := Lib.hid hre.out.2.1
            have x0 := HT.out.h4.cell 0 _ rfl
            have x1 := HT.out.h4.cell 1 _ rfl
            have x2 := HT.out.h4.cell 2 _ rfl
            have f0 := HT.out.h4.frozen 0
            have f1 := HT.out.h4.frozen 1
            have f2 := HT.out.h4.frozen 2
            have y0 := HT.out.h5.cell 0 _ rfl
            have y1 := HT.out.h5.cell 1 _ rfl
            have y2 := HT.out.h5.cell 2 _ rfl
            have g0 := HT.out.h5.frozen 0
            have g1 := HT.out.h5.frozen 1
            have g2 := HT.out.h5.frozen 2
            have hne45 : w.heap.size + 1 + 1 ≠ w.heap.size + 1 := by omega
            have HBZ := Lib.hid hre.out.1
            go_wp2_with fail
            refine bodyPost_ret (results_val3 (x := Val.nil) (y := Val.nil) rfl _ rfl rfl rfl ((((((HT.out.h4.setSame 0 _).setSame 1 _).setSame 2 _).setOther (Ne.symm hne45) _).setOther (Ne.symm hne45) _).setOther (Ne.symm hne45) _) ((((((HT.out.h5.setOther hne45 _).setOther hne45 _).setOther hne45 _).setSame 0 _).setSame 1 _).setSame 2 _)) rfl ⟨rfl, ?_⟩
            exact (((((HBZ.out.setCell (by simp) _).setCell (by simp) _).setCell (by simp) _).setCell (by simp; omega) _).setCell (by simp; omega) _).setCell (by simp; omega) _
      case inr =>
        go_loopw [50] (fun ii wr => ∃ j : Nat, i + 1 + j ≤ m ∧ ii = .int .i64 j ∧ Hid (Below w.heap.size w wr ∧ Two wr (w.heap.size + 1) ∧ firstLive (absE (es.drop (i + 1 + j))) = (R1, R2))) (fun ii _ => m - (i + 1) - (intOf ii).toNat)
        case atStart => exact ⟨0, by omega, rfl, Lib.hid ⟨HB3.out, HT3.out, by rw [Nat.add_zero]; exact HL.out⟩⟩
        case round =>
          obtain ⟨j, hj, rfl, hre⟩ := hrel
          by_cases hlt : i + 1 + j < m
          · have hjl : i + 1 + j < es.length := by rw [← EM.out]; exact hlt
            obtain ⟨y, hy⟩ : ∃ y, es[i + 1 + j]? = some y := ⟨_, List.getElem?_eq_getElem hjl⟩
            have hcell := HC.out wr hre.out.1 (i + 1 + j) y hy
            rw [show (i + 1 + j) * 7 = (i + 1) * 7 + j * 7 by omega] at hcell
            have hj0 : (0 : Int) ≤ (j : Int) := by omega
            have hj1 : (j : Int) < (m : Int) - ((i : Int) + 1) := by omega
            have hj2 : i + 1 + j < m := hlt
            have u0 := hcell 0
            have u1 := hcell 1
            have u2 := hcell 2
            have u3 := hcell 3
            have u4 := hcell 4
            have u5 := hcell 5
            have u6 := hcell 6
            have HY := Lib.hid hy
            clear hcell hjl hy
            cases y with
            | none =>
              have u0 := u0 _ (by decide) rfl
              have u1 := u1 _ (by decide) rfl
              have u2 := u2 _ (by decide) rfl
              have u3 := u3 _ (by decide) rfl
              have u4 := u4 _ (by decide) rfl
              have u5 := u5 _ (by decide) rfl
              have u6 := u6 _ (by decide) rfl
              rw [Nat.add_zero] at u0
              go_wp2_with fail
              go_roundw
              case rel => exact ⟨j + 1, by omega, by go_num, Lib.hid ⟨hre.out.1.alloc hre.out.1.size _, hre.out.2.1.below ((Below.refl _ _).alloc (Nat.le_refl _) _), (first_skip HY.out (fun k v e => by cases e)).trans hre.out.2.2⟩⟩
              case measure => simp [intOf]; omega
            | some kv =>
              obtain ⟨k, v⟩ := kv
              have u0 := u0 _ (by decide) rfl
              have u1 := u1 _ (by decide) rfl
              have u2 := u2 _ (by decide) rfl
              have u3 := u3 _ (by decide) rfl
              have u4 := u4 _ (by decide) rfl
              have u5 := u5 _ (by decide) rfl
              have u6 := u6 _ (by decide) rfl
              rw [Nat.add_zero] at u0
              have hb2 : Below wr.heap.size wr (wr.alloc (.cells #[.int .i64 k.k, .int .i64 k.n, .string k.s, .int .i64 v.k, .int .i64 v.n, .string v.s, .bool true] 190)) := (Below.refl _ _).alloc (Nat.le_refl _) _
              have hbx : Blk (wr.alloc (.cells #[.int .i64 k.k, .int .i64 k.n, .string k.s, .int .i64 v.k, .int .i64 v.n, .string v.s, .bool true] 190)) wr.heap.size 190 [.int .i64 k.k, .int .i64 k.n, .string k.s, .int .i64 v.k, .int .i64 v.n, .string v.s, .bool true] := Blk.new wr [.int .i64 k.k, .int .i64 k.n, .string k.s, .int .i64 v.k, .int .i64 v.n, .string v.s, .bool true] 190
              have HB2 := Lib.hid hb2
              have HBX := Lib.hid hbx
              clear hb2 hbx
              by_cases hvk : v.k = 0
              · have HVV := Lib.hid (fun (W : World) => HV.out v W)
                rw [show v.lives = 0 from if_pos hvk] at HVV
                have HS := Lib.hid ((first_skip HY.out (fun k' v' e => by cases e; exact hvk)).trans hre.out.2.2)
                clear hvk
                obtain ⟨v1, v2, v3⟩ := v
                go_wp2_with (go_at_call 109; (with_reducible refine (HVV.out _).mono ?_); rintro e w4 ⟨rfl, hb⟩; have HB4 := Lib.hid (HB2.out.trans (hb.mono HB2.out.size)); clear hb)
                go_roundw
                case rel => exact ⟨j + 1, by omega, by go_num, Lib.hid ⟨hre.out.1.trans (HB4.out.mono hre.out.1.size), hre.out.2.1.below HB4.out, HS.out⟩⟩
                case measure => simp [intOf]; omega
              · have HVV := Lib.hid (fun (W : World) => HV.out v W)
                rw [show v.lives = 1 from if_neg hvk] at HVV
                have hR := (first_hit HY.out hvk).symm.trans hre.out.2.2
                cases hR
                clear hvk
                obtain ⟨v1, v2, v3⟩ := R2
                obtain ⟨k1, k2, k3⟩ := R1
                go_upto_region 16 with (go_at_call 109; (with_reducible refine (HVV.out _).mono ?_); rintro e w4 ⟨rfl, hb⟩; have HB4 := Lib.hid (HB2.out.trans (hb.mono HB2.out.size)); have HBX4 := Lib.hid (HBX.out.of (hb.block _ HBX.out.lt)); clear hb)
                have HT := Lib.hid (hre.out.2.1.below HB4.out)
                have hne4 : w.heap.size + 1 ≠ wr.heap.size := by have := hre.out.2.1.h4.lt; omega
                have hne5 : w.heap.size + 1 + 1 ≠ wr.heap.size := by have := hre.out.2.1.h5.lt; omega
                have p0 : ∀ W, Blk W wr.heap.size 190 [.int .i64 k1, .int .i64 k2, .string k3, .int .i64 v1, .int .i64 v2, .string v3, .bool true] → W.cell? ⟨wr.heap.size, 0, none⟩ = some (.int .i64 k1) := fun W hW => hW.cell 0 _ rfl
                have p1 : ∀ W, Blk W wr.heap.size 190 [.int .i64 k1, .int .i64 k2, .string k3, .int .i64 v1, .int .i64 v2, .string v3, .bool true] → W.cell? ⟨wr.heap.size, 1, none⟩ = some (.int .i64 k2) := fun W hW => hW.cell 1 _ rfl
                have p2 : ∀ W, Blk W wr.heap.size 190 [.int .i64 k1, .int .i64 k2, .string k3, .int .i64 v1, .int .i64 v2, .string v3, .bool true] → W.cell? ⟨wr.heap.size, 2, none⟩ = some (.string k3) := fun W hW => hW.cell 2 _ rfl
                have p3 : ∀ W, Blk W wr.heap.size 190 [.int .i64 k1, .int .i64 k2, .string k3, .int .i64 v1, .int .i64 v2, .string v3, .bool true] → W.cell? ⟨wr.heap.size, 3, none⟩ = some (.int .i64 v1) := fun W hW => hW.cell 3 _ rfl
                have p4 : ∀ W, Blk W wr.heap.size 190 [.int .i64 k1, .int .i64 k2, .string k3, .int .i64 v1, .int .i64 v2, .string v3, .bool true] → W.cell? ⟨wr.heap.size, 4, none⟩ = some (.int .i64 v2) := fun W hW => hW.cell 4 _ rfl
                have p5 : ∀ W, Blk W wr.heap.size 190 [.int .i64 k1, .int .i64 k2, .string k3, .int .i64 v1, .int .i64 v2, .string v3, .bool true] → W.cell? ⟨wr.heap.size, 5, none⟩ = some (.string v3) := fun W hW => hW.cell 5 _ rfl
                have hS0 : Blk ({ w4 with drawn := w4.drawn + 1 } : World) wr.heap.size 190 [.int .i64 k1, .int .i64 k2, .string k3, .int .i64 v1, .int .i64 v2, .string v3, .bool true] := HBX4.out
                have HB5 : Hid (Below wr.heap.size wr ({ w4 with drawn := w4.drawn + 1 } : World)) := Lib.hid ⟨HB4.out.os, HB4.out.tape, HB4.out.output, HB4.out.size, HB4.out.block⟩
                have HT5 : Hid (Two ({ w4 with drawn := w4.drawn + 1 } : World) (w.heap.size + 1)) := Lib.hid ⟨HT.out.h4, HT.out.h5⟩
                refine RG.region_F (fun W => Blk W wr.heap.size 190 [.int .i64 k1, .int .i64 k2, .string k3, .int .i64 v1, .int .i64 v2, .string v3, .bool true]) 6 (by kernel_rfl) ?_
                generalize ({ w4 with drawn := w4.drawn + 1 } : World) = w5 at hS0 HB5 HT5 ⊢
                clear HB4 HBX4 HT
                refine RG.takeF 0 (oi := ⟨some 62, _, _, _, _, _⟩) (v := ?_) rfl (by kernel_rfl) (by kernel_rfl) (by kernel_rfl) (by kernel_rfl) (fun _ _ _ h => h) (Or.inl ⟨by rfl, ?hz0⟩) hS0 ?sest0
                case hz0 => (intro W hW; (try dsimp only at hW); go_simp; try with_reducible rfl)
                simp only [Act.put, List.setIfInBounds_toArray, List.set_cons_zero, List.set_cons_succ]
                refine RG.takeF 1 (oi := ⟨some 63, _, _, _, _, _⟩) (v := ?_) rfl (by kernel_rfl) (by kernel_rfl) (by kernel_rfl) (by kernel_rfl) (fun _ _ _ h => h) (Or.inl ⟨by rfl, ?hz1⟩) hS0 ?sest1
                case hz1 => (intro W hW; (try dsimp only at hW); go_simp; try with_reducible rfl)
                simp only [Act.put, List.setIfInBounds_toArray, List.set_cons_zero, List.set_cons_succ]
                refine RG.takeF 2 (oi := ⟨some 64, _, _, _, _, _⟩) (v := ?_) rfl (by kernel_rfl) (by kernel_rfl) (by kernel_rfl) (by kernel_rfl) (fun _ _ _ h => h) (Or.inl ⟨by rfl, ?hz2⟩) hS0 ?sest2
                case hz2 => (intro W hW; (try dsimp only at hW); go_simp; try with_reducible rfl)
                simp only [Act.put, List.setIfInBounds_toArray, List.set_cons_zero, List.set_cons_succ]
                refine RG.takeF 3 (oi := ⟨some 65, _, _, _, _, _⟩) (v := ?_) rfl (by kernel_rfl) (by kernel_rfl) (by kernel_rfl) (by kernel_rfl) (fun _ _ _ h => h) (Or.inl ⟨by rfl, ?hz3⟩) hS0 ?sest3
                case hz3 => (intro W hW; (try dsimp only at hW); go_simp; try with_reducible rfl)
                simp only [Act.put, List.setIfInBounds_toArray, List.set_cons_zero, List.set_cons_succ]
                have x0 := HT5.out.h4.cell 0 _ rfl
                have x1 := HT5.out.h4.cell 1 _ rfl
                have x2 := HT5.out.h4.cell 2 _ rfl
                have f0 := HT5.out.h4.frozen 0
                have f1 := HT5.out.h4.frozen 1
                have f2 := HT5.out.h4.frozen 2
                refine RG.oneF 4 (by kernel_rfl) (by decide) ?_
                refine RG.wpOp_plain rfl rfl fun K hK => ?_
                go_simp
                refine hK _ _ ⟨(((hS0.setOther (Ne.symm hne4) _).setOther (Ne.symm hne4) _).setOther (Ne.symm hne4) _), ?_⟩
                clear hK K
                try simp only [Act.put, List.setIfInBounds_toArray, List.set_cons_zero, List.set_cons_succ]
                have hne45 : w.heap.size + 1 + 1 ≠ w.heap.size + 1 := by omega
                have hh5 := ((HT5.out.h5.setOther (a := ⟨w.heap.size + 1, 0, none⟩) hne45 (.int .i64 k1)).setOther (a := ⟨w.heap.size + 1, 1, none⟩) hne45 (.int .i64 k2)).setOther (a := ⟨w.heap.size + 1, 2, none⟩) hne45 (.string k3)
                have y0 := HT5.out.h5.cell 0 _ rfl
                have y1 := HT5.out.h5.cell 1 _ rfl
                have y2 := HT5.out.h5.cell 2 _ rfl
                have g0 := HT5.out.h5.frozen 0
                have g1 := HT5.out.h5.frozen 1
                have g2 := HT5.out.h5.frozen 2
                refine RG.oneF 5 (by kernel_rfl) (by decide) ?_
                refine RG.wpOp_plain rfl rfl fun K hK => ?_
                go_simp
                refine hK _ _ ⟨((((((hS0.setOther (Ne.symm hne4) _).setOther (Ne.symm hne4) _).setOther (Ne.symm hne4) _).setOther (Ne.symm hne5) _).setOther (Ne.symm hne5) _).setOther (Ne.symm hne5) _), ?_⟩
                clear hK K
                try simp only [Act.put, List.setIfInBounds_toArray, List.set_cons_zero, List.set_cons_succ]
                refine RG.lastF (by kernel_rfl) (by kernel_rfl) ?_
                refine RG.wpOp_plain rfl rfl fun K hK => ?_
                go_simp
                refine hK _ _ ?_
                clear hK K
                try simp only [Act.put, List.setIfInBounds_toArray, List.set_cons_zero, List.set_cons_succ]
                have HBZ := Lib.hid (hre.out.1.trans (HB5.out.mono hre.out.1.size))
                go_wp2
                refine bodyPost_ret (results_val3 (x := ⟨k1, k2, k3⟩) (y := ⟨v1, v2, v3⟩) rfl _ rfl rfl rfl ((((((HT5.out.h4.setSame 0 _).setSame 1 _).setSame 2 _).setOther (Ne.symm hne45) _).setOther (Ne.symm hne45) _).setOther (Ne.symm hne45) _) (((hh5.setSame 0 _).setSame 1 _).setSame 2 _)) rfl ⟨rfl, ?_⟩
                exact (((((HBZ.out.setCell (by simp) _).setCell (by simp) _).setCell (by simp) _).setCell (by simp; omega) _).setCell (by simp; omega) _).setCell (by simp; omega) _
          · obtain hjm : i + 1 + j = m := by omega
            have hj3 : ¬ (j : Int) < (m : Int) - ((i : Int) + 1) := by omega
            have hR := hre.out.2.2
            rw [first_end (by rw [← EM.out]; omega)] at hR
            cases hR
            have HT := Lib.hid hre.out.2.1
            have x0 := HT.out.h4.cell 0 _ rfl
            have x1 := HT.out.h4.cell 1 _ rfl
            have x2 := HT.out.h4.cell 2 _ rfl
            have f0 := HT.out.h4.frozen 0
            have f1 := HT.out.h4.frozen 1
            have f2 := HT.out.h4.frozen 2
            have y0 := HT.out.h5.cell 0 _ rfl
            have y1 := HT.out.h5.cell 1 _ rfl
            have y2 := HT.out.h5.cell 2 _ rfl
            have g0 := HT.out.h5.frozen 0
            have g1 := HT.out.h5.frozen 1
            have g2 := HT.out.h5.frozen 2
            have hne45 : w.heap.size + 1 + 1 ≠ w.heap.size + 1 := by omega
            have HBZ := Lib.hid hre.out.1
            go_wp2_with fail
            refine bodyPost_ret (results_val3 (x := Val.nil) (y := Val.nil) rfl _ rfl rfl rfl ((((((HT.out.h4.setSame 0 _).setSame 1 _).setSame 2 _).setOther (Ne.symm hne45) _).setOther (Ne.symm hne45) _).setOther (Ne.symm hne45) _) ((((((HT.out.h5.setOther hne45 _).setOther hne45 _).setOther hne45 _).setSame 0 _).setSame 1 _).setSame 2 _)) rfl ⟨rfl, ?_⟩
            exact (((((HBZ.out.setCell (by simp) _).setCell (by simp) _).setCell (by simp) _).setCell (by simp; omega) _).setCell (by simp; omega) _).setCell (by simp; omega) _
    · have hM : nextM L x = ((Val.nil, Val.nil), 15) := by
        unfold nextM; rw [if_neg hk, h1]; rfl
      rw [hM]
      have HTWO : Hid (∀ W, Two W (w.heap.size + 1) → Below w.heap.size w W → ∀ tmps : Array Value, tmps.getD 4 undef = .pointer (some ⟨w.heap.size + 1, 0, none⟩) → tmps.getD 5 undef = .pointer (some ⟨w.heap.size + 1 + 1, 0, none⟩) → tmps.getD 6 undef = .int .i64 15 → ∀ W', W' = ((((((W.setCell ⟨w.heap.size + 1, 0, none⟩ (.int .i64 0)).setCell ⟨w.heap.size + 1, 1, none⟩ (.int .i64 0)).setCell ⟨w.heap.size + 1, 2, none⟩ (.string ⟨#[]⟩)).setCell ⟨w.heap.size + 1 + 1, 0, none⟩ (.int .i64 0)).setCell ⟨w.heap.size + 1 + 1, 1, none⟩ (.int .i64 0)).setCell ⟨w.heap.size + 1 + 1, 2, none⟩ (.string ⟨#[]⟩)) →
          bodyPost Try.prog Try.f49 (fun e w' => e = Ending.returned (.tuple #[Val.nil.v, Val.nil.v, .int .i64 15]) ∧ Below w.heap.size w w') Exit.ret ⟨tmps, []⟩ W') := Lib.hid (fun W hT hB tmps ht hs hu W' hW' => by
        subst hW'
        have hne45 : w.heap.size + 1 + 1 ≠ w.heap.size + 1 := by omega
        refine bodyPost_ret (results_val3 (x := Val.nil) (y := Val.nil) rfl _ ht hs hu ((((((hT.h4.setSame 0 _).setSame 1 _).setSame 2 _).setOther (Ne.symm hne45) _).setOther (Ne.symm hne45) _).setOther (Ne.symm hne45) _) ((((((hT.h5.setOther hne45 _).setOther hne45 _).setOther hne45 _).setSame 0 _).setSame 1 _).setSame 2 _)) rfl ⟨rfl, ?_⟩
        exact (((((hB.setCell (by simp) _).setCell (by simp) _).setCell (by simp) _).setCell (by simp; omega) _).setCell (by simp; omega) _).setCell (by simp; omega) _)
      clear hM hk
      cases hbad : x.bad with
      | true =>
        have hE : keyE x = 15 := by unfold keyE; rw [hbad]; rfl
        rw [hE] at HKY
        generalize hkv : keyV x = k at *
        clear h h1 h2 h3 h4 hE hbad hkv
        obtain ⟨k1, k2, k3⟩ := k
        obtain ⟨x1, x2, x3⟩ := x
        go_enter Try.func49, Try.ntmps49
        go_wp2_with (first
          | (go_at_call 43; (with_reducible refine (HKY.out _).mono ?_); rintro e w1 ⟨rfl, hb⟩; have HB1 := Lib.hid (HB0.out.trans (hb.mono HB0.out.size)); have HT1 := Lib.hid (HTW.out.below hb); clear hb; have HB2 : Hid (Below w.heap.size w (w1.alloc (.cells #[.int .i64 k1, .int .i64 k2, .string k3] 57))) := Lib.hid (HB1.out.alloc HB1.out.size _); have HT2 := Lib.hid (HT1.out.below ((Below.refl w1.heap.size w1).alloc (Nat.le_refl _) (.cells #[.int .i64 k1, .int .i64 k2, .string k3] 57))); have x0 := HT2.out.h4.cell 0 _ rfl; have x1 := HT2.out.h4.cell 1 _ rfl; have x2 := HT2.out.h4.cell 2 _ rfl; have f0 := HT2.out.h4.frozen 0; have f1 := HT2.out.h4.frozen 1; have f2 := HT2.out.h4.frozen 2; have y0 := HT2.out.h5.cell 0 _ rfl; have y1 := HT2.out.h5.cell 1 _ rfl; have y2 := HT2.out.h5.cell 2 _ rfl; have g0 := HT2.out.h5.frozen 0; have g1 := HT2.out.h5.frozen 1; have g2 := HT2.out.h5.frozen 2))
        exact HTWO.out _ HT2.out HB2.out _ rfl rfl rfl _ rfl
      | false =>
        have hE : keyE x = 0 := by unfold keyE; rw [hbad]; rfl
        have hF : (findM T es (keyV x)).2 = -1 := by rw [← h3]; unfold entI; rw [hbad]; rfl
        rw [hE] at HKY
        rw [hF] at HF
        generalize hkv : keyV x = k at *
        generalize (findM T es k).1 = pl at *
        clear h h1 h2 h3 h4 hE hF hbad hkv
        obtain ⟨k1, k2, k3⟩ := k
        obtain ⟨x1, x2, x3⟩ := x
        go_enter Try.func49, Try.ntmps49
        go_wp2_with (first
          | (go_at_call 43; (with_reducible refine (HKY.out _).mono ?_); rintro e w1 ⟨rfl, hb⟩; have HB1 := Lib.hid (HB0.out.trans (hb.mono HB0.out.size)); have HT1 := Lib.hid (HTW.out.below hb); clear hb; have HB2 : Hid (Below w.heap.size w (w1.alloc (.cells #[.int .i64 k1, .int .i64 k2, .string k3] 57))) := Lib.hid (HB1.out.alloc HB1.out.size _); have HT2 := Lib.hid (HT1.out.below ((Below.refl w1.heap.size w1).alloc (Nat.le_refl _) (.cells #[.int .i64 k1, .int .i64 k2, .string k3] 57))))
          | (go_at_call 111; (with_reducible refine (HF.out _ (HI.out.below HB2.out)).mono ?_); rintro e w2 ⟨rfl, hb⟩; have HB3 := Lib.hid (HB2.out.trans (hb.mono HB2.out.size)); have HT3 := Lib.hid (HT2.out.below hb); clear hb; have x0 := HT3.out.h4.cell 0 _ rfl; have x1 := HT3.out.h4.cell 1 _ rfl; have x2 := HT3.out.h4.cell 2 _ rfl; have f0 := HT3.out.h4.frozen 0; have f1 := HT3.out.h4.frozen 1; have f2 := HT3.out.h4.frozen 2; have y0 := HT3.out.h5.cell 0 _ rfl; have y1 := HT3.out.h5.cell 1 _ rfl; have y2 := HT3.out.h5.cell 2 _ rfl; have g0 := HT3.out.h5.frozen 0; have g1 := HT3.out.h5.frozen 1; have g2 := HT3.out.h5.frozen 2))
        exact HTWO.out _ HT3.out HB3.out _ rfl rfl rfl _ rfl
end
end Go.Proofs.Ytmjfmfelbmbniaa
