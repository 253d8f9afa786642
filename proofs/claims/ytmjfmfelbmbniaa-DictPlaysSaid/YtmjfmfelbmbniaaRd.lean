/- The reference's dictionary: as it lies in memory; place, Get, Has, Live. -/
import Derived.Test.YtmjfmfelbmbniaaRe
import Derived.Test.YtmjfmfelbmbniaaWalksM
namespace Go.Proofs.Ytmjfmfelbmbniaa
open Go.RowKit Go.Maps HK ShM
set_option linter.unusedVariables false
set_option linter.unusedSimpArgs false
abbrev pcells (p : Val × Val) : List Value := [.int .i64 p.1.k, .int .i64 p.1.n, .string p.1.s, .int .i64 p.2.k, .int .i64 p.2.n, .string p.2.s]
def flatP (L : Pairs) : List Value := L.flatMap pcells
theorem flatP_len (L : Pairs) : (flatP L).length = L.length * 6 := by
  induction L with
  | nil => rfl
  | cons x r ih => rw [flatP, List.flatMap_cons, List.length_append]; rw [flatP] at ih; rw [ih]; simp only [List.length_cons, List.length_nil]; omega
theorem flatP_at : ∀ {L : Pairs} {i c : Nat} {x : Val × Val}, L[i]? = some x → c < 6 → (flatP L)[i * 6 + c]? = (pcells x)[c]?
  | [], i, c, x, h, hc => by simp at h
  | y :: r, 0, c, x, h, hc => by
    simp at h; subst h
    rw [flatP, List.flatMap_cons, Nat.zero_mul, Nat.zero_add, List.getElem?_append_left (by simpa using hc)]
  | y :: r, i + 1, c, x, h, hc => by
    rw [flatP, List.flatMap_cons, List.getElem?_append_right (by show 6 ≤ _; omega), show (i + 1) * 6 + c - (pcells y).length = i * 6 + c by show (i + 1) * 6 + c - 6 = _; omega]
    exact flatP_at (L := r) (by simpa using h) hc
structure RIn (w : World) (X : Nat → Prop) (rb : Nat) (L : Pairs) (rv : Value) : Prop where
  hd : Blk w rb 74 [rv]
  rows : w.ownsRow 0 197 6 rv L.length (flatP L)
  ownR : X rb
  ownV : ∀ g, rv.ownBlock = some g → X g
  lt : ∀ b, X b → b < w.heap.size
/-- The reference's dictionary of these pairs. -/
def RD (w : World) (X : Nat → Prop) (rb : Nat) (L : Pairs) : Prop := ∃ rv, RIn w X rb L rv
section
variable {w w' : World} {X : Nat → Prop} {rb : Nat} {L : Pairs} {rv : Value}
theorem RIn.of (h : RIn w X rb L rv) (hs : w.heap.size ≤ w'.heap.size) (hb : ∀ b, X b → w'.heap[b]? = w.heap[b]?) : RIn w' X rb L rv :=
  { h with hd := h.hd.of (hb _ h.ownR), rows := ownsRow_of h.rows (fun g hg => hb _ (h.ownV g hg)), lt := fun b hB => Nat.lt_of_lt_of_le (h.lt b hB) hs }
theorem RIn.below (h : RIn w X rb L rv) (hb : Below w.heap.size w w') : RIn w' X rb L rv := h.of hb.size (fun b hB => hb.block b (h.lt b hB))
theorem RD.of (h : RD w X rb L) (hs : w.heap.size ≤ w'.heap.size) (hb : ∀ b, X b → w'.heap[b]? = w.heap[b]?) : RD w' X rb L := by obtain ⟨rv, h⟩ := h; exact ⟨rv, h.of hs hb⟩
theorem RD.below (h : RD w X rb L) (hb : Below w.heap.size w w') : RD w' X rb L := by obtain ⟨rv, h⟩ := h; exact ⟨rv, h.below hb⟩
theorem RD.lt (h : RD w X rb L) : ∀ b, X b → b < w.heap.size := by obtain ⟨rv, h⟩ := h; exact h.lt
theorem RIn.form (h : RIn w X rb L rv) : ∃ a c, rv = .slice a L.length c ∧ L.length ≤ c ∧ c ≤ 9223372036854775807 := by
  rcases h.rows.2 with ⟨he, hn⟩ | ⟨g, cap, cur, he, _, _, hc, hm, _⟩
  · exact ⟨none, 0, by rw [hn]; exact he, by omega, by omega⟩
  · exact ⟨_, cap, he, hc, hm⟩
theorem RIn.cell (h : RIn w X rb L rv) {i : Nat} {x : Val × Val} (hx : L[i]? = some x) : ∃ g cap, rv = .slice (some ⟨g, 0, none⟩) L.length cap ∧ ∀ c u, c < 6 → (pcells x)[c]? = some u → w.cell? ⟨g, i * 6 + c, none⟩ = some u := by
  rcases h.rows.2 with ⟨_, hn⟩ | ⟨g, cap, cur, rfl, _, _, hc, hm, _⟩
  · rw [List.eq_nil_of_length_eq_zero hn] at hx; simp at hx
  · refine ⟨g, cap, rfl, fun c u hc6 hu => ?_⟩
    have := h.rows.cells (g := g) rfl (i * 6 + c) u (by rw [flatP_at hx hc6, hu])
    rwa [addr0] at this
def PlaceIs (L : Pairs) (x : Val) (i : Int) : Prop := (x.bad = false ∧ ∃ n v, i = (n : Nat) ∧ L[n]? = some (keyV x, v)) ∨ (i = -1 ∧ (x.bad = true ∨ ∀ p ∈ L, p.1 ≠ keyV x))
def PlaceAt (w : World) (L : Pairs) (x : Val) (e : Ending) (w' : World) : Prop := ∃ i : Int, e = .returned (.int .i64 i) ∧ PlaceIs L x i ∧ Below w.heap.size w w'
set_option maxHeartbeats 4000000 in
set_option maxRecDepth 20000 in
theorem rplace_calls (h : RD w X rb L) (x : Val) (hL : L.length ≤ 1048576) : Calls Try.prog 149 #[.pointer (some ⟨rb, 0, none⟩), x.v] w (PlaceAt w L x) := by
  obtain ⟨rv, h⟩ := h
  have HKY := Lib.hid (fun (W : World) => rkey_calls x W)
  have HB0 : Hid (Below w.heap.size w (w.alloc (.cells #[.int .i64 x.k, .int .i64 x.n, .string x.s] 57))) := Lib.hid ((Below.refl _ _).alloc (Nat.le_refl _) _)
  have HI := Lib.hid h
  obtain ⟨ra, rc, hrv, hrc1, hrc2⟩ := h.form
  subst hrv
  have HC : Hid (∀ W, Below w.heap.size w W → ∀ j y, L[j]? = some y → ∃ g, ra = some ⟨g, 0, none⟩ ∧ ∀ c u, c < 6 → (pcells y)[c]? = some u → W.cell? ⟨g, j * 6 + c, none⟩ = some u) := Lib.hid (fun W hW j y hj => by
    obtain ⟨g, cap, he, hc⟩ := (HI.out.below hW).cell hj
    exact ⟨g, (Value.slice.inj he).1, hc⟩)
  clear h
  cases hb : x.bad with
  | true =>
    have hE : keyE x = 15 := by unfold keyE; rw [hb]; rfl
    rw [hE] at HKY
    have HB := Lib.hid hb
    clear hb hE
    generalize hkv : keyV x = k at *
    obtain ⟨k1, k2, k3⟩ := k
    obtain ⟨x1, x2, x3⟩ := x
    clear hkv
    go_enter Try.func149, Try.ntmps149
    go_wp2_with (go_at_call 126; (with_reducible refine (HKY.out _).mono ?_); rintro e w1 ⟨rfl, hb⟩; have HB1 := Lib.hid (HB0.out.trans (hb.mono HB0.out.size)); clear hb)
    go_ret
    exact ⟨-1, rfl, .inr ⟨rfl, .inl HB.out⟩, HB1.out.alloc HB1.out.size _⟩
  | false =>
    have hE : keyE x = 0 := by unfold keyE; rw [hb]; rfl
    rw [hE] at HKY
    have HB := Lib.hid hb
    clear hb hE
    have HPI : Hid (∀ i, PlaceIs L x i ↔ ((x.bad = false ∧ ∃ n v, i = (n : Nat) ∧ L[n]? = some (keyV x, v)) ∨ (i = -1 ∧ (x.bad = true ∨ ∀ p ∈ L, p.1 ≠ keyV x)))) := Lib.hid (fun _ => Iff.rfl)
    generalize hkv : keyV x = k at *
    obtain ⟨k1, k2, k3⟩ := k
    obtain ⟨x1, x2, x3⟩ := x
    clear hkv
    obtain ⟨n, hn⟩ : ∃ n, n = L.length := ⟨_, rfl⟩
    have EN := Lib.hid hn
    rw [← hn] at hrc1 hL
    clear hn
    go_enter Try.func149, Try.ntmps149
    go_wp2_with (go_at_call 126; (with_reducible refine (HKY.out _).mono ?_); rintro e w1 ⟨rfl, hb⟩; have HB1 := Lib.hid (HB0.out.trans (hb.mono HB0.out.size)); clear hb; have HB2 : Hid (Below w.heap.size w (w1.alloc (.cells #[.int .i64 k1, .int .i64 k2, .string k3] 57))) := Lib.hid (HB1.out.alloc HB1.out.size _); have HKB := Lib.hid (Blk.new w1 [.int .i64 k1, .int .i64 k2, .string k3] 57); have c0 := (HI.out.below HB2.out).hd.cell 0 _ rfl; rw [← EN.out] at c0)
    obtain ⟨bk, hbk⟩ : ∃ bk, bk = w1.heap.size := ⟨_, rfl⟩
    have HBKL : Hid (w.heap.size ≤ bk) := Lib.hid (by rw [hbk]; exact HB1.out.size)
    rw [← hbk] at HKB ⊢
    obtain ⟨w2, hw2⟩ : ∃ w2, w2 = w1.alloc (.cells #[.int .i64 k1, .int .i64 k2, .string k3] 57) := ⟨_, rfl⟩
    have HKB : Hid (Blk w2 bk 57 [.int .i64 k1, .int .i64 k2, .string k3]) := Lib.hid (by rw [hw2]; exact HKB.out)
    have HB2 : Hid (Below w.heap.size w w2) := Lib.hid (by rw [hw2]; exact HB2.out)
    rw [← hw2]
    clear hw2 hbk c0
    go_loopw [21] (fun ii wr => ∃ j : Nat, j ≤ n ∧ ii = .int .i64 j ∧ Hid (Below w2.heap.size w2 wr ∧ ∀ q, q < j → ∀ p, L[q]? = some p → p.1 ≠ ⟨k1, k2, k3⟩)) (fun ii _ => n - (intOf ii).toNat)
    case atStart => exact ⟨0, Nat.zero_le _, rfl, Lib.hid ⟨Below.refl _ _, fun q hq => absurd hq (Nat.not_lt_zero _)⟩⟩
    case round =>
      obtain ⟨j, hj, rfl, hre⟩ := hrel
      have HBW := Lib.hid (HB2.out.trans (hre.out.1.mono HB2.out.size))
      by_cases hlt : j < n
      · obtain ⟨p, hp⟩ : ∃ p, L[j]? = some p := ⟨_, List.getElem?_eq_getElem (by rw [← EN.out]; exact hlt)⟩
        obtain ⟨g, rfl, hcell⟩ := HC.out wr HBW.out j p hp
        have u0 := hcell 0 _ (by decide) rfl
        have u1 := hcell 1 _ (by decide) rfl
        have u2 := hcell 2 _ (by decide) rfl
        have u3 := hcell 3 _ (by decide) rfl
        have u4 := hcell 4 _ (by decide) rfl
        have u5 := hcell 5 _ (by decide) rfl
        rw [Nat.add_zero] at u0
        have hj0 : (0 : Int) ≤ (j : Int) := by omega
        have hj1 : (j : Int) < (n : Int) := by omega
        have hkb := HKB.out.of (hre.out.1.block _ HKB.out.lt)
        have hbne : bk ≠ wr.heap.size := by have := hkb.lt; omega
        have HP := Lib.hid hp
        obtain ⟨⟨p1, p2, p3⟩, ⟨v1, v2, v3⟩⟩ := p
        have hkb2 := hkb.alloc (.cells #[.int .i64 p1, .int .i64 p2, .string p3, .int .i64 v1, .int .i64 v2, .string v3] 197)
        have m0 := hkb2.cell 0 _ rfl
        have m1 := hkb2.cell 1 _ rfl
        have m2 := hkb2.cell 2 _ rfl
        clear hcell hp hkb hkb2
        by_cases he : (⟨p1, p2, p3⟩ : Val) = ⟨k1, k2, k3⟩
        · cases he
          go_wp2_with fail
          go_ret
          exact ⟨j, rfl, (HPI.out _).2 (.inl ⟨HB.out, j, _, rfl, HP.out⟩), HBW.out.alloc HBW.out.size _⟩
        · have h3 := val_ne he
          have HNE := Lib.hid he
          clear he
          dsimp only at h3
          have HST : Hid (∀ q, q < j + 1 → ∀ p, L[q]? = some p → p.1 ≠ ⟨k1, k2, k3⟩) := Lib.hid (fun q hq p hp => by
            by_cases hqj : q = j
            · subst hqj
              rw [HP.out] at hp
              cases hp
              exact HNE.out
            · exact hre.out.2 q (by omega) p hp)
          clear HNE HP
          rcases h3 with h3 | ⟨rfl, h3 | ⟨rfl, h3⟩⟩
          all_goals
            go_wp2_with fail
            go_roundw
            case rel => exact ⟨j + 1, by omega, by go_num, Lib.hid ⟨hre.out.1.alloc hre.out.1.size _, HST.out⟩⟩
            case measure => simp [intOf]; omega
      · obtain rfl : j = n := by omega
        go_wp2_with fail
        go_ret
        exact ⟨-1, rfl, (HPI.out _).2 (.inr ⟨rfl, .inr (fun p hp => by
          obtain ⟨q, hq⟩ := List.getElem?_of_mem hp
          exact hre.out.2 q (by rw [EN.out]; exact (List.getElem?_eq_some_iff.1 hq).1) p hq)⟩), HBW.out⟩
theorem getA_none {L : Pairs} {k : Val} (h : ∀ p ∈ L, p.1 ≠ k) : getA L k = none := by
  unfold getA
  rw [List.find?_eq_none.2 (fun p hp => by simpa using h p hp)]
  rfl
theorem place_hit (hk : KeysOK L) {x v : Val} {n : Nat} (hb : x.bad = false) (hn : L[n]? = some (keyV x, v)) : hasK L x = true ∧ getV L x = v ∧ getA L (keyV x) = some v := by
  have hg := getA_mem hk.1 (p := (keyV x, v)) (List.mem_of_getElem? hn)
  dsimp only at hg
  exact ⟨by unfold hasK; rw [hb, hg]; rfl, by unfold getV; rw [hb, hg]; rfl, hg⟩
theorem place_miss {x : Val} (h : x.bad = true ∨ ∀ p ∈ L, p.1 ≠ keyV x) : hasK L x = false ∧ getV L x = Val.nil ∧ (x.bad = true ∨ getA L (keyV x) = none) := by
  rcases h with h | h
  · exact ⟨by unfold hasK; rw [h]; rfl, by unfold getV; rw [h]; rfl, .inl h⟩
  · have hg := getA_none h
    exact ⟨by unfold hasK; rw [hg]; simp, by unfold getV; rw [hg]; simp, .inr hg⟩
set_option maxHeartbeats 2000000 in
theorem rhas_calls (h : RD w X rb L) (hk : KeysOK L) (x : Val) (hL : L.length ≤ 1048576) : Calls Try.prog 114 #[.pointer (some ⟨rb, 0, none⟩), x.v] w fun e w' => e = .returned (.bool (hasK L x)) ∧ Below w.heap.size w w' := by
  have HP := Lib.hid (fun (W : World) (h : RD W X rb L) => rplace_calls h x hL)
  have HD := Lib.hid h
  have HK := Lib.hid hk
  have HB0 : Hid (Below w.heap.size w (w.alloc (.cells #[.int .i64 x.k, .int .i64 x.n, .string x.s] 57))) := Lib.hid ((Below.refl _ _).alloc (Nat.le_refl _) _)
  have HHIT := Lib.hid (fun (n : Nat) (v : Val) (h1 : x.bad = false) (h2 : L[n]? = some (keyV x, v)) => (place_hit hk h1 h2).1)
  have HMIS := Lib.hid (fun (h : x.bad = true ∨ ∀ p ∈ L, p.1 ≠ keyV x) => (place_miss h).1)
  clear h hk
  obtain ⟨x1, x2, x3⟩ := x
  go_enter Try.func114, Try.ntmps114
  go_wp2_with (go_at_call 149; (with_reducible refine (HP.out _ (HD.out.below HB0.out)).mono ?_); rintro e w1 ⟨i, rfl, hp, hb⟩; have HB1 := Lib.hid (HB0.out.trans (hb.mono HB0.out.size)); clear hb; rcases hp with ⟨hb, n, v, rfl, hn⟩ | ⟨rfl, hm⟩)
  · go_ret
    exact ⟨by rw [HHIT.out n v hb hn]; simp, HB1.out⟩
  · go_ret
    exact ⟨by rw [HMIS.out hm]; rfl, HB1.out⟩
set_option maxHeartbeats 2000000 in
theorem rget_calls (h : RD w X rb L) (hk : KeysOK L) (x : Val) (hL : L.length ≤ 1048576) : Calls Try.prog 113 #[.pointer (some ⟨rb, 0, none⟩), x.v] w fun e w' => e = .returned (getV L x).v ∧ Below w.heap.size w w' := by
  have HP := Lib.hid (fun (W : World) (h : RD W X rb L) => rplace_calls h x hL)
  have HD := Lib.hid h
  have HB0 : Hid (Below w.heap.size w ((w.alloc (.cells #[.int .i64 x.k, .int .i64 x.n, .string x.s] 57)).alloc (.cells #[.int .i64 0, .int .i64 0, .string ⟨#[]⟩] 57))) := Lib.hid (by (repeat (first | exact Below.refl _ _ | (refine Below.alloc ?_ (by simp <;> omega) _))))
  have HBK : Hid (Blk ((w.alloc (.cells #[.int .i64 x.k, .int .i64 x.n, .string x.s] 57)).alloc (.cells #[.int .i64 0, .int .i64 0, .string ⟨#[]⟩] 57)) (w.heap.size + 1) 57 [.int .i64 0, .int .i64 0, .string ⟨#[]⟩]) := Lib.hid (by
    simpa using Blk.new (w.alloc (.cells #[.int .i64 x.k, .int .i64 x.n, .string x.s] 57)) [.int .i64 0, .int .i64 0, .string ⟨#[]⟩] 57)
  have HHIT := Lib.hid (fun (n : Nat) (v : Val) (h1 : x.bad = false) (h2 : L[n]? = some (keyV x, v)) => (place_hit hk h1 h2).2.1)
  have HMIS := Lib.hid (fun (h : x.bad = true ∨ ∀ p ∈ L, p.1 ≠ keyV x) => (place_miss h).2.1)
  have HRI := Lib.hid h
  clear h hk
  generalize getV L x = gv at *
  obtain ⟨x1, x2, x3⟩ := x
  go_enter Try.func113, Try.ntmps113
  go_upto_region 2 with (go_at_call 149; (with_reducible refine (HP.out _ (HD.out.below HB0.out)).mono ?_); rintro e w1 ⟨i, rfl, hp, hb⟩; have HB1 := Lib.hid (HB0.out.trans (hb.mono HB0.out.size)); have HK1 := Lib.hid (HBK.out.of (hb.block _ HBK.out.lt)); have HP1 := Lib.hid hp; clear hb hp)
  have x0 := HK1.out.cell 0 _ rfl
  have x1' := HK1.out.cell 1 _ rfl
  have x2' := HK1.out.cell 2 _ rfl
  have f0 := HK1.out.frozen 0
  have f1 := HK1.out.frozen 1
  have f2 := HK1.out.frozen 2
  rcases HP1.out with ⟨hb, n, v, rfl, hn⟩ | ⟨rfl, hm⟩
  · have hv := HHIT.out n v hb hn
    subst hv
    obtain ⟨rv, hri⟩ := HD.out.below HB1.out
    obtain ⟨g, cap, hrv, hcell⟩ := hri.cell hn
    subst hrv
    have c0 := hri.hd.cell 0 _ rfl
    obtain ⟨_, _, hre, hc1, hc2⟩ := hri.form
    have hc1' : L.length ≤ cap := by rw [(Value.slice.inj hre).2.2]; exact hc1
    have hc2' : cap ≤ 9223372036854775807 := by rw [(Value.slice.inj hre).2.2]; exact hc2
    have u3 := hcell 3 _ (by decide) rfl
    have u4 := hcell 4 _ (by decide) rfl
    have u5 := hcell 5 _ (by decide) rfl
    have hlt := (List.getElem?_eq_some_iff.1 hn).1
    have hn0 : (0 : Int) ≤ (n : Int) := by omega
    have hn1 : (n : Int) < (L.length : Int) := by omega
    clear hcell hre hc1 hc2 hri hb hn
    obtain ⟨v1, v2, v3⟩ := gv
    go_wp2
    refine bodyPost_ret (results_val (x := ⟨v1, v2, v3⟩) rfl _ rfl (((HK1.out.setSame 0 _).setSame 1 _).setSame 2 _)) rfl ⟨rfl, ?_⟩
    exact ((HB1.out.setCell (by simp) _).setCell (by simp) _).setCell (by simp) _
  · have hv := HMIS.out hm
    subst hv
    clear hm
    go_wp2
    refine bodyPost_ret (results_val (x := Val.nil) rfl _ rfl (((HK1.out.setSame 0 _).setSame 1 _).setSame 2 _)) rfl ⟨rfl, ?_⟩
    exact ((HB1.out.setCell (by simp) _).setCell (by simp) _).setCell (by simp) _
theorem live_take {i : Nat} {p : Val × Val} (h : L[i]? = some p) : liveL (L.take (i + 1)) = liveL (L.take i) + if p.2.k = 0 then 0 else 1 := by
  obtain ⟨hlt, he⟩ := List.getElem?_eq_some_iff.1 h
  unfold liveL
  rw [List.take_succ_eq_append_getElem hlt, he, List.countP_append]
  by_cases h0 : p.2.k = 0 <;> simp [h0]
set_option maxHeartbeats 4000000 in
set_option maxRecDepth 20000 in
theorem rlive_calls (h : RD w X rb L) (hL : L.length ≤ 1048576) : Calls Try.prog 53 #[.pointer (some ⟨rb, 0, none⟩)] w fun e w' => e = .returned (.int .i64 (liveL L : Nat)) ∧ Below w.heap.size w w' := by
  obtain ⟨rv, h⟩ := h
  have HI := Lib.hid h
  obtain ⟨ra, rc, hrv, hrc1, hrc2⟩ := h.form
  subst hrv
  have HC : Hid (∀ W, Below w.heap.size w W → ∀ j y, L[j]? = some y → ∃ g, ra = some ⟨g, 0, none⟩ ∧ ∀ c u, c < 6 → (pcells y)[c]? = some u → W.cell? ⟨g, j * 6 + c, none⟩ = some u) := Lib.hid (fun W hW j y hj => by
    obtain ⟨g, cap, he, hc⟩ := (HI.out.below hW).cell hj
    exact ⟨g, (Value.slice.inj he).1, hc⟩)
  have c0 := h.hd.cell 0 _ rfl
  obtain ⟨n, hn⟩ : ∃ n, n = L.length := ⟨_, rfl⟩
  have EN := Lib.hid hn
  rw [← hn] at hrc1 hL c0
  clear hn h
  go_enter Try.func53, Try.ntmps53
  go_wp2_with fail
  go_loopw [3, 11] (fun lv ii wr => ∃ j : Nat, j ≤ n ∧ ii = .int .i64 j ∧ lv = .int .i64 (liveL (L.take j) : Nat) ∧ Hid (Below w.heap.size w wr)) (fun _ ii _ => n - (intOf ii).toNat)
  case atStart => exact ⟨0, Nat.zero_le _, rfl, rfl, Lib.hid (Below.refl _ _)⟩
  case round =>
    obtain ⟨j, hj, rfl, rfl, hre⟩ := hrel
    by_cases hlt : j < n
    · obtain ⟨p, hp⟩ : ∃ p, L[j]? = some p := ⟨_, List.getElem?_eq_getElem (by rw [← EN.out]; exact hlt)⟩
      obtain ⟨g, rfl, hcell⟩ := HC.out wr hre.out j p hp
      have u0 := hcell 0 _ (by decide) rfl
      have u1 := hcell 1 _ (by decide) rfl
      have u2 := hcell 2 _ (by decide) rfl
      have u3 := hcell 3 _ (by decide) rfl
      have u4 := hcell 4 _ (by decide) rfl
      have u5 := hcell 5 _ (by decide) rfl
      rw [Nat.add_zero] at u0
      have hj0 : (0 : Int) ≤ (j : Int) := by omega
      have hj1 : (j : Int) < (n : Int) := by omega
      have HLT := Lib.hid (live_take hp)
      have hle : liveL (L.take j) ≤ 1048576 := by
        have h1 : liveL (L.take j) ≤ (L.take j).length := List.countP_le_length
        rw [List.length_take] at h1; omega
      clear hcell hp
      generalize liveL (L.take j) = lj at *
      have hl0 : (0 : Int) ≤ (lj : Int) := by omega
      have hl1 : (lj : Int) ≤ 1048576 := by omega
      obtain ⟨⟨p1, p2, p3⟩, ⟨v1, v2, v3⟩⟩ := p
      dsimp only at HLT
      by_cases hv : v1 = 0
      · rw [if_pos hv] at HLT
        subst hv
        go_wp2_with fail
        go_roundw
        case rel => exact ⟨j + 1, by omega, by go_num, by rw [HLT.out, Nat.add_zero], Lib.hid (hre.out.alloc hre.out.size _)⟩
        case measure => simp [intOf]; omega
      · rw [if_neg hv] at HLT
        have hv' : (v1 != 0) = true := by simp [hv]
        go_wp2_with fail
        go_roundw
        case rel => exact ⟨j + 1, by omega, by go_num, by rw [HLT.out]; go_num, Lib.hid (hre.out.alloc hre.out.size _)⟩
        case measure => simp [intOf]; omega
    · obtain rfl : j = n := by omega
      have HTK : Hid (L.take j = L) := Lib.hid (List.take_of_length_le (by rw [EN.out]; exact Nat.le_refl _))
      go_wp2_with fail
      go_ret
      exact ⟨by rw [HTK.out]; rfl, hre.out⟩
end
end Go.Proofs.Ytmjfmfelbmbniaa
