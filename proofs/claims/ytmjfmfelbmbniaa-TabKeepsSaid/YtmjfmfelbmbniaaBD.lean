/- Texts of layers 12 to 14, one behind the other: plain models, what stands in memory, the functions' contracts. -/
import Derived.Test.YtmjfmfelbmbniaaBC
import Derived.OrdersHeld
import Derived.Test.YtmjfmfelbmbniaaBA
import Derived.Test.YtmjfmfelbmbniaaBB
/- Layer 14, plain: what hash and other do to the rest of a table. -/
namespace Go.Proofs.Ytmjfmfelbmbniaa
open Go.RowKit Go.Maps HK ShM
set_option linter.unusedVariables false
set_option linter.unusedSimpArgs false
theorem own_own (v : Val) : v.own.own = v.own := by
  obtain ⟨k, n, s⟩ := v
  unfold Val.own
  by_cases h1 : k = 1
  · subst h1; by_cases hn : n = 0 <;> simp [hn]
  · by_cases h3 : k = 3
    · subst h3; simp
    · by_cases h2 : k = 2 ∨ k = 4 ∨ k = 5 ∨ k = 6 ∨ k = 7
      · simp [h1, h3, h2]
      · simp [h1, h3, h2]
theorem setL_own {L : Pairs} {x v : Val} : setL L x v.own = setL L x v := by unfold setL; rw [own_own]
theorem setF_own {L : Pairs} {x v : Val} : setF L x v.own = setF L x v := by unfold setF; rw [own_own]
theorem setL_key {L : Pairs} {x v : Val} (hb : x.bad = false) : setL L (keyV x) v = setL L x v := by
  obtain ⟨h1, h2⟩ := keyV_key x hb
  unfold setL; rw [h1, h2, hb]
theorem setF_key {L : Pairs} {x v : Val} (hb : x.bad = false) : setF L (keyV x) v = setF L x v := by
  obtain ⟨h1, h2⟩ := keyV_key x hb
  unfold setF; rw [h1, h2, hb]
abbrev yesV : Val := ⟨1, 1, Val.e⟩
theorem hash_step {L : Pairs} {k : ByteArray} {v : Val} (hk : ∀ p ∈ L, p.1 ≠ strV k) (hv : v.own = v) : setL (setL L (strV k) yesV) (strV k) v = L ++ [(strV k, v)] := by
  have h0 := getA_none hk
  obtain ⟨e1, e2⟩ := strV_key k
  have s1 : setL L (strV k) yesV = L ++ [(strV k, yesV)] := by
    unfold setL; rw [e2, e1, h0]; rfl
  rw [s1]
  unfold setL
  rw [e2, e1, getA_snoc _ _ _ _ h0, if_pos rfl, hv]
  show setA (L ++ [(strV k, yesV)]) (strV k) v = _
  rw [setA_append, setA_off (by
    intro h
    obtain ⟨p, hp, e⟩ := List.mem_map.1 h
    exact hk p hp e)]
  simp [setA]
/-- A key with a slot is set in its slot. -/
theorem set_slot {ks : List ByteArray} {S : List Val} (hl : S.length = ks.length) (hn : ks.Nodup) (hs : ∀ k ∈ ks, k.size ≤ maxLen) {x v : Val} (hx : x.k = 3) {j : Nat} (hj : slotOf ks x.s = some j) :
    setL (strPairs ks S) x v = strPairs ks (S.set j v.own) ∧ setF (strPairs ks S) x v = false := by
  obtain ⟨e1, e2⟩ := keyV_str hx
  have hg := slotOf_get hj
  have hlt := (List.getElem?_eq_some_iff.1 hg).1
  have hS : S[j]? = some S[j] := List.getElem?_eq_getElem (by omega)
  have ha : getA (strPairs ks S) (strV x.s) = some S[j] := by
    rw [getA_slot hl hn, hj]; exact hS
  refine ⟨?_, ?_⟩
  · unfold setL
    rw [e2, e1, ha]
    show setA (strPairs ks S) (strV x.s) v.own = _
    rw [setA_at (strPairs_ok hl hn hs) (strPairs_at hg hS), strPairs_set v.own hl hg]
  · unfold setF
    rw [e2, e1, ha]; rfl
/-- A key without a slot. -/
theorem set_none {ks : List ByteArray} {S : List Val} (hl : S.length = ks.length) (hn : ks.Nodup) {x v : Val} (hb : x.bad = false) (hm : x.k = 3 → slotOf ks x.s = none) :
    setL (strPairs ks S) x v = (if v.own.k = 0 then strPairs ks S else strPairs ks S ++ [(keyV x, v.own)]) ∧ setF (strPairs ks S) x v = !decide (v.own.k = 0) := by
  have ha : getA (strPairs ks S) (keyV x) = none := by
    by_cases h3 : x.k = 3
    · rw [(keyV_str h3).1, getA_slot hl hn, hm h3]; rfl
    · exact getA_other (by rw [keyV_k hb]; exact h3)
  refine ⟨?_, ?_⟩
  · unfold setL; rw [hb, ha]; rfl
  · unfold setF; rw [hb, ha]; rfl
end Go.Proofs.Ytmjfmfelbmbniaa

/- Layer 14: hash. -/
namespace Go.Proofs.Ytmjfmfelbmbniaa
open Go.RowKit Go.Maps HK ShM
set_option linter.unusedVariables false
set_option linter.unusedSimpArgs false
namespace RH
section
variable {P : Program} {md : Region.Mode} {ops : Array Oper} {Q : Exit → Act → World → Prop} {S : World → Prop}
theorem one {i : Nat} {fuel : Nat} {listed : Array Bool} {a : Act} {w : World} (hr : Region.ready md ops listed = [i]) (h : wpOp P ops Q i (fun a' w' => S w' ∧ wpAnyH P md ops Q S fuel (listed.setIfInBounds i true) a' w') a w) : wpAnyH P md ops Q S (fuel + 1) listed a w :=
  wpAnyH_all hr (by simp) (fun j hj => by simp at hj; subst hj; exact h)
theorem wpOp_wanted {i : Nat} {o : Oper} {K : Act → World → Prop} {a : Act} {w : World} (ho : ops[i]? = some o) (hw : Region.wanted o (yielded ops a.tmps) = true) (h : ∀ K' : Act → World → Prop, (∀ a w, K a w → K' a w) → o.wp P a w K' Q) : wpOp P ops Q i K a w := by
  unfold wpOp
  rw [ho]
  simp only [hw, if_true]
  exact .inl (h K fun _ _ h => h)
theorem takeH (i : Nat) {oi : Oper} {v : Value} {fuel : Nat} {listed : Array Bool} {a : Act} {w : World} (hi : ops[i]? = some oi)
    (hs : Region.noSelect ops = true) (hf : Region.free md ops listed i = true) (hr : (Region.ready md ops listed).contains i = true)
    (hQ : ∀ c a w, Q (.panic c) (a.put oi.dst v) w → Q (.panic c) a w) (hy : YieldsIf P ops S oi v a) (hS : S w)
    (h : wpAnyH P md ops Q S fuel (listed.setIfInBounds i true) (a.put oi.dst v) w) : wpAnyH P md ops Q S (fuel + 1) listed a w :=
  wpAnyH_take hi hs hf hr hQ hy hS h
theorem two {i j : Nat} {fuel : Nat} {listed : Array Bool} {a : Act} {w : World} (hr : Region.ready md ops listed = [i, j]) (h1 : wpOp P ops Q i (fun a' w' => S w' ∧ wpAnyH P md ops Q S fuel (listed.setIfInBounds i true) a' w') a w) (h2 : wpOp P ops Q j (fun a' w' => S w' ∧ wpAnyH P md ops Q S fuel (listed.setIfInBounds j true) a' w') a w) : wpAnyH P md ops Q S (fuel + 1) listed a w :=
  wpAnyH_all hr (by simp) (fun q hq => by simp at hq; rcases hq with rfl | rfl; exact h1; exact h2)
end
end RH
open RH
theorem Strs.form {w : World} {v : Value} {ks : List ByteArray} (h : Strs w v ks) : ∃ a c, v = .slice a ks.length c ∧ ks.length ≤ c ∧ c ≤ 9223372036854775807 := by
  rcases h.2 with ⟨he, hn⟩ | ⟨g, cap, cur, he, _, _, hc, hm, _⟩
  · exact ⟨none, 0, by rw [hn]; exact he, by omega, by omega⟩
  · exact ⟨_, cap, he, hc, hm⟩
theorem Strs.cell {w : World} {v : Value} {ks : List ByteArray} (h : Strs w v ks) {j : Nat} {k : ByteArray} (hk : ks[j]? = some k) : ∃ g cap, v = .slice (some ⟨g, 0, none⟩) ks.length cap ∧ w.cell? ⟨g, j, none⟩ = some (.string k) := by
  rcases h.2 with ⟨_, hn⟩ | ⟨g, cap, cur, rfl, _, _, hc, hm, _⟩
  · rw [List.eq_nil_of_length_eq_zero hn] at hk; simp at hk
  · refine ⟨g, cap, rfl, ?_⟩
    have := World.ownsRow.cells h (g := g) rfl j (.string k) (by simp [hk])
    rwa [addr0] at this
/-- The loop of hash: so many keys are in the dictionary. -/
structure HashAt (w : World) (tb : Nat) (tp mp av sv kv : Value) (i d : Nat) (ks : List ByteArray) (S : List Val) (j : Nat) (wr : World) (Y : Nat → Prop) : Prop where
  dict : DAt wr Y d (strPairs (ks.take j) (S.take j)) (2 * j)
  new : ∀ b, Y b → w.heap.size ≤ b
  apart : ∀ b, Y b → kv.ownBlock ≠ some b
  hd : Blk wr tb 202 [av, tp, .int .i64 1, .int .i64 (i : Nat), sv, .pointer (some ⟨d, 0, none⟩), mp]
  chg : Chg (fun b => b = tb) w wr
  keys : Strs wr kv ks
theorem DAt.setC {w : World} {X : Nat → Prop} {d N : Nat} {L : Pairs} (h : DAt w X d L N) {a : Addr} (ha : ¬ X a.block) (v : Value) : DAt (w.setCell a v) X d L N :=
  h.of (by simp) (fun b hb => Below.heap_setCell _ _ _ _ (fun e => ha (e ▸ hb)))
theorem take_pairs {ks : List ByteArray} {S : List Val} {j : Nat} {k : ByteArray} {x : Val} (hl : S.length = ks.length) (hk : ks[j]? = some k) (hx : S[j]? = some x) : strPairs (ks.take (j + 1)) (S.take (j + 1)) = strPairs (ks.take j) (S.take j) ++ [(strV k, x)] := by
  obtain ⟨h1, e1⟩ := List.getElem?_eq_some_iff.1 hk
  obtain ⟨h2, e2⟩ := List.getElem?_eq_some_iff.1 hx
  rw [List.take_succ_eq_append_getElem h1, List.take_succ_eq_append_getElem h2, e1, e2]
  exact strPairs_snoc k x (by rw [List.length_take, List.length_take]; omega)
theorem take_new {ks : List ByteArray} {S : List Val} {j : Nat} {k : ByteArray} (hn : ks.Nodup) (hk : ks[j]? = some k) : ∀ p ∈ strPairs (ks.take j) (S.take j), p.1 ≠ strV k := by
  intro p hp e
  obtain ⟨a, h1, h2⟩ := strPairs_mem hp
  rw [h2] at e
  have e : a = k := by cases e; rfl
  subst e
  obtain ⟨q, hq, eq⟩ := List.getElem_of_mem h1
  have hq2 : q < j := by rw [List.length_take] at hq; omega
  obtain ⟨h3, e3⟩ := List.getElem?_eq_some_iff.1 hk
  rw [List.getElem_take] at eq
  have := (List.getElem_inj hn).1 (eq.trans e3.symm)
  omega
section
variable {w w' : World} {X Y B : Nat → Prop} {tb i M N d : Nat} {tp mp av sv : Value} {T : List Sh} {A S : List Val} {R : Pairs} {s : Tab} {D F : Int}
set_option maxHeartbeats 8000000 in
set_option maxRecDepth 20000 in
theorem thash_calls (h : TSh w X tb tp mp T A i S av sv) (ht : Tr w B tp D F T) (hB : ∀ b, B b → ¬ X b) (hown : ∀ v ∈ S, v.own = v) : Calls Try.prog 150 #[.pointer (some ⟨tb, 0, none⟩)] w fun e w' => e = .returned (.tuple #[]) ∧
    ∃ d Y, THa w' (fun b => X b ∨ Y b) tb tp mp A (strPairs (ksOf T i) S) 128 av d Y ∧ (∀ b, Y b → w.heap.size ≤ b) ∧ Chg (fun b => b = tb) w w' := by
  have HT := Lib.hid h
  have HTR := Lib.hid ht
  have HBX := Lib.hid hB
  have HOW := Lib.hid hown
  have HNW := Lib.hid (dnew_calls w)
  have htl := Lib.hid (h.lt tb h.ownT)
  have hkm : keysM T (i : Nat) = ksOf T i := by
    unfold keysM
    rw [if_neg (by have := h.lti; omega), Int.toNat_natCast]
  have HKM := Lib.hid hkm
  have HL := Lib.hid h.len
  have H64 := Lib.hid h.le64
  have HND := Lib.hid h.nd
  have HSZ := Lib.hid h.sz
  obtain ⟨sa, sc, hsv, hsc1, hsc2⟩ := h.slo.form
  subst hsv
  obtain ⟨m, hm⟩ : ∃ m, m = S.length := ⟨_, rfl⟩
  have HM := Lib.hid hm
  have hfz := fun (W : World) (hW : Below w.heap.size w W) => (h.below hW).hd.frozen 5
  have hcz := fun (W : World) (hW : Below w.heap.size w W) => (h.below hW).hd.cell 5 _ rfl
  have HFZ := Lib.hid hfz
  have HCZ := Lib.hid hcz
  clear hkm hfz hcz h ht hB hown
  rw [← hm] at hsc1
  clear hm
  go_enter Try.func150, Try.ntmps150
  go_upto_region 1 with (go_at_call 42; go_loud ((with_reducible refine HNW.out.mono ?_); rintro e w1 ⟨d, Y, rfl, hd1, hd2, hd3⟩; have HD1 := Lib.hid hd1; have HN1 := Lib.hid hd2; have HB1 := Lib.hid hd3; have c5 := HCZ.out _ hd3; have z5 := HFZ.out _ hd3; clear hd1 hd2 hd3))
  clear c5 z5
  have hY : Hid (∀ b, Y b → b ≠ tb) := Lib.hid (fun b hb e => by have h1 := HN1.out b hb; have h2 := htl.out; omega)
  obtain ⟨w2, hw2⟩ : ∃ z, z = w1.setCell ⟨tb, 5, none⟩ (.pointer (some ⟨d, 0, none⟩)) := ⟨_, rfl⟩
  have HH2 : Hid (Blk w2 tb 202 [av, tp, .int .i64 1, .int .i64 (i : Nat), .slice sa m sc, .pointer (some ⟨d, 0, none⟩), mp]) := Lib.hid (by rw [hw2]; have := (HT.out.below HB1.out).hd.setSame 5 (.pointer (some ⟨d, 0, none⟩)); rw [← HM.out] at this; exact this)
  have HD2 : Hid (DAt w2 Y d [] 0) := Lib.hid (by rw [hw2]; exact HD1.out.setC (a := ⟨tb, 5, none⟩) (fun hb => hY.out _ hb rfl) _)
  have HC2 : Hid (Chg (fun b => b = tb) w w2) := Lib.hid (by rw [hw2]; exact (Chg.ofBelow (B := fun b => b = tb) HB1.out).setCell (a := ⟨tb, 5, none⟩) (fun _ => rfl) _)
  have HTR2 : Hid (Tr w2 B tp D F T) := Lib.hid (HTR.out.of HC2.out.size (fun b hb => HC2.out.block b (HTR.out.lt b hb) (fun e => HBX.out b hb (e ▸ HT.out.ownT))))
  rw [← hw2]
  clear hw2 HD1 HB1
  have HKS : Hid (∀ W, Below w2.heap.size w2 W → Calls Try.prog 30 #[tp, .int .i64 (i : Nat)] W fun e w' => ∃ v, e = .returned v ∧ NewStrs W w' v (ksOf T i)) := Lib.hid (fun W hW => by have := (HTR2.out.below hW).keys (i : Nat); rw [HKM.out] at this; exact this)
  have BLK : Below w2.heap.size w2 ({ w2 with drawn := w2.drawn + 1 } : World) := ⟨rfl, rfl, rfl, Nat.le_refl _, fun _ _ => rfl⟩
  refine wp_region_held (S := Chg (fun _ => False) w2) (by kernel_rfl) ?_
  have hSK : Chg (fun _ => False) w2 ({ w2 with drawn := w2.drawn + 1 } : World) := Chg.ofBelow BLK
  generalize ({ w2 with drawn := w2.drawn + 1 } : World) = wK at hSK BLK ⊢
  have q1K : ∀ W, Chg (fun _ => False) w2 W → W.cell? ⟨tb, 1, none⟩ = some (tp) := fun W hW => (HH2.out.of (hW.block tb HH2.out.lt id)).cell 1 _ rfl
  have q3K : ∀ W, Chg (fun _ => False) w2 W → W.cell? ⟨tb, 3, none⟩ = some (.int .i64 (i : Nat)) := fun W hW => (HH2.out.of (hW.block tb HH2.out.lt id)).cell 3 _ rfl
  refine takeH 0 (oi := ⟨some 8, _, _, _, _, _⟩) (v := ?_) rfl (by kernel_rfl) (by kernel_rfl) (by kernel_rfl) (fun _ _ _ h => h) (Or.inl ⟨by rfl, ?hyK1⟩) hSK ?restK1
  case hyK1 => (intro W hW; (try dsimp only at hW); go_simp; try with_reducible rfl)
  try simp only [Act.put, List.setIfInBounds_toArray, List.set_cons_zero, List.set_cons_succ]
  refine takeH 1 (oi := ⟨some 9, _, _, _, _, _⟩) (v := ?_) rfl (by kernel_rfl) (by kernel_rfl) (by kernel_rfl) (fun _ _ _ h => h) (Or.inl ⟨by rfl, ?hyK2⟩) hSK ?restK2
  case hyK2 => (intro W hW; (try dsimp only at hW); go_simp; try with_reducible rfl)
  try simp only [Act.put, List.setIfInBounds_toArray, List.set_cons_zero, List.set_cons_succ]
  refine takeH 2 (oi := ⟨some 10, _, _, _, _, _⟩) (v := ?_) rfl (by kernel_rfl) (by kernel_rfl) (by kernel_rfl) (fun _ _ _ h => h) (Or.inl ⟨by rfl, ?hyK3⟩) hSK ?restK3
  case hyK3 => (intro W hW; (try dsimp only at hW); go_simp; try with_reducible rfl)
  try simp only [Act.put, List.setIfInBounds_toArray, List.set_cons_zero, List.set_cons_succ]
  refine takeH 3 (oi := ⟨some 11, _, _, _, _, _⟩) (v := ?_) rfl (by kernel_rfl) (by kernel_rfl) (by kernel_rfl) (fun _ _ _ h => h) (Or.inl ⟨by rfl, ?hyK4⟩) hSK ?restK4
  case hyK4 => (intro W hW; (try dsimp only at hW); go_simp; try with_reducible rfl)
  try simp only [Act.put, List.setIfInBounds_toArray, List.set_cons_zero, List.set_cons_succ]
  refine takeH 4 (oi := ⟨some 12, _, _, _, _, _⟩) (v := ?_) rfl (by kernel_rfl) (by kernel_rfl) (by kernel_rfl) (fun _ _ _ h => h) (Or.inl ⟨by rfl, ?hyK5⟩) hSK ?restK5
  case hyK5 => (intro W hW; (try dsimp only at hW); go_simp; try with_reducible rfl)
  try simp only [Act.put, List.setIfInBounds_toArray, List.set_cons_zero, List.set_cons_succ]
  refine takeH 5 (oi := ⟨some 13, _, _, _, _, _⟩) (v := ?_) rfl (by kernel_rfl) (by kernel_rfl) (by kernel_rfl) (fun _ _ _ h => h) (Or.inl ⟨by rfl, ?hyK6⟩) hSK ?restK6
  case hyK6 => (intro W hW; (try dsimp only at hW); go_simp; try with_reducible rfl)
  try simp only [Act.put, List.setIfInBounds_toArray, List.set_cons_zero, List.set_cons_succ]
  refine takeH 6 (oi := ⟨some 14, _, _, _, _, _⟩) (v := ?_) rfl (by kernel_rfl) (by kernel_rfl) (by kernel_rfl) (fun _ _ _ h => h) (Or.inl ⟨by rfl, ?hyK7⟩) hSK ?restK7
  case hyK7 => (intro W hW; (try dsimp only at hW); go_simp; try with_reducible rfl)
  try simp only [Act.put, List.setIfInBounds_toArray, List.set_cons_zero, List.set_cons_succ]
  refine takeH 7 (oi := ⟨some 15, _, _, _, _, _⟩) (v := ?_) rfl (by kernel_rfl) (by kernel_rfl) (by kernel_rfl) (fun _ _ _ h => h) (Or.inl ⟨by rfl, ?hyK8⟩) hSK ?restK8
  case hyK8 => (intro W hW; (try dsimp only at hW); go_simp; try with_reducible rfl)
  try simp only [Act.put, List.setIfInBounds_toArray, List.set_cons_zero, List.set_cons_succ]
  refine takeH 10 (oi := ⟨some 18, _, _, _, _, _⟩) (v := ?_) rfl (by kernel_rfl) (by kernel_rfl) (by kernel_rfl) (fun _ _ _ h => h) (Or.inl ⟨by rfl, ?hyK9⟩) hSK ?restK9
  case hyK9 => (intro W hW; (try dsimp only at hW); go_simp; try with_reducible rfl)
  try simp only [Act.put, List.setIfInBounds_toArray, List.set_cons_zero, List.set_cons_succ]
  refine one (i := 8) (by kernel_rfl) ?_
  refine wpOp_wanted rfl (by rfl) fun K hK => ?_
  go_simp
  with_reducible refine (HKS.out _ BLK).mono ?_
  rintro e wK10 ⟨kv, rfl, hN⟩
  have hb := hN.2.2
  obtain ⟨ka, kc, hkv, hk1, hk2⟩ := hN.1.form
  subst hkv
  have hkv1 := hN.1
  have hkg1 : ∀ g, (Value.slice ka (ksOf T i).length kc).ownBlock = some g → w2.heap.size ≤ g := fun g hg => Nat.le_trans BLK.size (hN.2.1 g hg)
  have BLK10 : Below w2.heap.size w2 wK10 := BLK.trans (hb.mono BLK.size)
  have SK10 : Chg (fun _ => False) w2 wK10 := Chg.ofBelow BLK10
  clear hb
  refine hK _ _ ⟨SK10, ?_⟩
  clear hK K
  try simp only [Act.put, List.setIfInBounds_toArray, List.set_cons_zero, List.set_cons_succ]
  refine takeH 9 (oi := ⟨some 17, _, _, _, _, _⟩) (v := ?_) rfl (by kernel_rfl) (by kernel_rfl) (by kernel_rfl) (fun _ _ _ h => h) (Or.inl ⟨by rfl, ?hyK11⟩) SK10 ?restK11
  case hyK11 => (intro W hW; (try dsimp only at hW); go_simp; try with_reducible rfl)
  try simp only [Act.put, List.setIfInBounds_toArray, List.set_cons_zero, List.set_cons_succ]
  refine wpAnyH_done (by kernel_rfl) ?_ _
  clear q1K q3K
  have HB3 : Hid (Below w2.heap.size w2 wK10) := Lib.hid BLK10
  have HKV := Lib.hid hkv1
  have HKG := Lib.hid hkg1
  clear BLK10 hkv1 hkg1
  generalize wK10 = w3 at HB3 HKV ⊢
  have HA0 : Hid (∃ Y', HashAt w tb tp mp av (.slice sa m sc) (.slice ka (ksOf T i).length kc) i d (ksOf T i) S 0 w3 Y') := Lib.hid ⟨Y, HD2.out.below HB3.out, HN1.out, (fun b hb e => by have h1 := HD2.out.lt b hb; have h2 := HKG.out b e; omega), HH2.out.of (HB3.out.block tb HH2.out.lt), HC2.out.trans (Chg.ofBelow (B := fun _ => False) HB3.out) (fun b _ h => h.elim), HKV.out⟩
  have HKL : Hid ((ksOf T i).length = m) := Lib.hid (by rw [HM.out, HL.out])
  clear HB3 HKV HH2 HD2 HC2 HTR2 HKS
  go_wp2
  go_loopw [2, 3, 18] (fun _ _ qv wr => ∃ j : Nat, j ≤ (ksOf T i).length ∧ qv = .int .i64 j ∧ Hid (∃ Y', HashAt w tb tp mp av (.slice sa m sc) (.slice ka (ksOf T i).length kc) i d (ksOf T i) S j wr Y')) (fun _ _ qv _ => (ksOf T i).length - (intOf qv).toNat)
  case atStart => exact ⟨0, by omega, by first | rfl | go_num, HA0⟩
  case round =>
    obtain ⟨j, hj, rfl, HI⟩ := hrel
    obtain ⟨Y1, HA'⟩ := HI.out
    have HA := Lib.hid HA'
    clear HA'
    by_cases hlt : j < (ksOf T i).length
    · obtain ⟨k, hk'⟩ : ∃ k, (ksOf T i)[j]? = some k := ⟨_, List.getElem?_eq_getElem hlt⟩
      have hltS : j < S.length := by rw [HL.out]; exact hlt
      obtain ⟨x, hx'⟩ : ∃ x, S[j]? = some x := ⟨_, List.getElem?_eq_getElem hltS⟩
      have HK := Lib.hid hk'
      have HX := Lib.hid hx'
      obtain ⟨g, kcap, hkf, hkc⟩ := HA.out.keys.cell hk'
      obtain ⟨gs, scap, hsf, _⟩ := HT.out.slo.cell hx'
      obtain rfl : ka = some ⟨g, 0, none⟩ := by cases hkf; rfl
      obtain rfl : sa = some ⟨gs, 0, none⟩ := by cases hsf; rfl
      have hkz := Lib.hid (HSZ.out k (List.mem_of_getElem? hk'))
      have hxo := Lib.hid (HOW.out x (List.mem_of_getElem? hx'))
      have hY1 : Hid (¬ Y1 tb) := Lib.hid (fun hb => by have h1 := HA.out.new tb hb; have h2 := htl.out; omega)
      have hgs : Hid (gs < w.heap.size ∧ gs ≠ tb) := Lib.hid ⟨(HT.out.slo.lt gs rfl).2, fun e => blk_ne_row HT.out.hd HT.out.slo (g := gs) rfl (by decide) e.symm⟩
      have hj64 : Hid (j < 64) := Lib.hid (by have := H64.out; omega)
      have HBT : Hid (∀ W, Calls Try.prog 117 #[.bool true] W fun e w' => e = .returned yesV.v ∧ Below W.heap.size W w') := Lib.hid (fun W => ofBool_calls true W)
      have hg1 : (0 : Int) ≤ (j : Int) := by omega
      have hg2 : (j : Int) < ((ksOf T i).length : Int) := by omega
      clear hk' hx' hkf hsf hltS
      go_upto_region 4 with (fail)
      have hu := Try.underlying57
      have BLD : Below wr.heap.size wr ({ wr with drawn := wr.drawn + 1 } : World) := ⟨rfl, rfl, rfl, Nat.le_refl _, fun _ _ => rfl⟩
      refine wp_region_held (S := Chg (Y1) wr) (by kernel_rfl) ?_
      have hSD : Chg (Y1) wr ({ wr with drawn := wr.drawn + 1 } : World) := Chg.ofBelow BLD
      generalize ({ wr with drawn := wr.drawn + 1 } : World) = wD at hSD BLD ⊢
      have q5D : ∀ W, Chg (Y1) wr W → W.cell? ⟨tb, 5, none⟩ = some (.pointer (some ⟨d, 0, none⟩)) := fun W hW => (HA.out.hd.of (hW.block tb HA.out.hd.lt hY1.out)).cell 5 _ rfl
      refine takeH 0 (oi := ⟨some 23, _, _, _, _, _⟩) (v := ?_) rfl (by kernel_rfl) (by kernel_rfl) (by kernel_rfl) (fun _ _ _ h => h) (Or.inl ⟨by rfl, ?hyD12⟩) hSD ?restD12
      case hyD12 => (intro W hW; (try dsimp only at hW); go_simp; try with_reducible rfl)
      try simp only [Act.put, List.setIfInBounds_toArray, List.set_cons_zero, List.set_cons_succ]
      refine takeH 1 (oi := ⟨some 24, _, _, _, _, _⟩) (v := ?_) rfl (by kernel_rfl) (by kernel_rfl) (by kernel_rfl) (fun _ _ _ h => h) (Or.inl ⟨by rfl, ?hyD13⟩) hSD ?restD13
      case hyD13 => (intro W hW; (try dsimp only at hW); go_simp; try with_reducible rfl)
      try simp only [Act.put, List.setIfInBounds_toArray, List.set_cons_zero, List.set_cons_succ]
      refine takeH 2 (oi := ⟨some 25, _, _, _, _, _⟩) (v := ?_) rfl (by kernel_rfl) (by kernel_rfl) (by kernel_rfl) (fun _ _ _ h => h) (Or.inl ⟨by rfl, ?hyD14⟩) hSD ?restD14
      case hyD14 => (intro W hW; (try dsimp only at hW); go_simp; try with_reducible rfl)
      try simp only [Act.put, List.setIfInBounds_toArray, List.set_cons_zero, List.set_cons_succ]
      refine takeH 3 (oi := ⟨some 26, _, _, _, _, _⟩) (v := ?_) rfl (by kernel_rfl) (by kernel_rfl) (by kernel_rfl) (fun _ _ _ h => h) (Or.inl ⟨by rfl, ?hyD15⟩) hSD ?restD15
      case hyD15 => (intro W hW; (try dsimp only at hW); go_simp; try with_reducible rfl)
      try simp only [Act.put, List.setIfInBounds_toArray, List.set_cons_zero, List.set_cons_succ]
      refine takeH 4 (oi := ⟨some 27, _, _, _, _, _⟩) (v := ?_) rfl (by kernel_rfl) (by kernel_rfl) (by kernel_rfl) (fun _ _ _ h => h) (Or.inl ⟨by rfl, ?hyD16⟩) hSD ?restD16
      case hyD16 => (intro W hW; (try dsimp only at hW); go_simp; try with_reducible rfl)
      try simp only [Act.put, List.setIfInBounds_toArray, List.set_cons_zero, List.set_cons_succ]
      refine one (i := 5) (by kernel_rfl) ?_
      refine wpOp_wanted rfl (by rfl) fun K hK => ?_
      go_simp
      with_reducible refine (ofStr_calls k _).mono ?_
      rintro e wD17 ⟨rfl, hb⟩
      have BLD17 : Below wr.heap.size wr wD17 := BLD.trans (hb.mono BLD.size)
      have SD17 : Chg (Y1) wr wD17 := Chg.ofBelow BLD17
      clear hb
      refine hK _ _ ⟨SD17, ?_⟩
      clear hK K
      try simp only [Act.put, List.setIfInBounds_toArray, List.set_cons_zero, List.set_cons_succ]
      refine one (i := 6) (by kernel_rfl) ?_
      refine wpOp_wanted rfl (by rfl) fun K hK => ?_
      go_simp
      with_reducible refine (HBT.out _).mono ?_
      rintro e wD18 ⟨rfl, hb⟩
      have BLD18 : Below wr.heap.size wr wD18 := BLD17.trans (hb.mono BLD17.size)
      have SD18 : Chg (Y1) wr wD18 := Chg.ofBelow BLD18
      clear hb
      refine hK _ _ ⟨SD18, ?_⟩
      clear hK K
      try simp only [Act.put, List.setIfInBounds_toArray, List.set_cons_zero, List.set_cons_succ]
      refine one (i := 7) (by kernel_rfl) ?_
      refine wpOp_wanted rfl (by rfl) fun K hK => ?_
      go_simp
      with_reducible refine (dset_calls (HA.out.dict.below BLD18) (by have := hj64.out; omega) (strV k) yesV hkz.out).mono ?_
      rintro e wD19 ⟨rfl, Y2, hd, hy, hc⟩
      have SD19 : Chg (Y1) wr wD19 := (Chg.ofBelow BLD18).trans hc (fun b _ h => h)
      have HD4 := Lib.hid hd
      have HY4 : Hid (∀ b, Y2 b → Y1 b ∨ wr.heap.size ≤ b) := Lib.hid (fun b hb => (hy b hb).imp id (fun h => Nat.le_trans BLD18.size h))
      clear hd hy hc
      refine hK _ _ ⟨SD19, ?_⟩
      clear hK K
      try simp only [Act.put, List.setIfInBounds_toArray, List.set_cons_zero, List.set_cons_succ]
      refine wpAnyH_done (by kernel_rfl) ?_ _
      clear q5D
      have HC4 := Lib.hid (SD19)
      generalize wD19 = w5 at HC4 HD4 ⊢
      have HH5 : Hid (Blk w5 tb 202 [av, tp, .int .i64 1, .int .i64 (i : Nat), .slice (some ⟨gs, 0, none⟩) m sc, .pointer (some ⟨d, 0, none⟩), mp]) := Lib.hid (HA.out.hd.of (HC4.out.block tb HA.out.hd.lt hY1.out))
      have hY2 : Hid (∀ b, Y2 b → w.heap.size ≤ b) := Lib.hid (fun b hb => (HY4.out b hb).elim (HA.out.new b) (fun h => Nat.le_trans HA.out.chg.size h))
      have hY2t : Hid (¬ Y2 tb) := Lib.hid (fun hb => by have h1 := hY2.out tb hb; have h2 := htl.out; omega)
      have HC5 : Hid (Chg (fun b => b = tb) w w5) := Lib.hid (HA.out.chg.trans HC4.out (fun b hb h => by have := HA.out.new b h; omega))
      have HX5 : Hid (∀ W, Chg Y2 w5 W → ∀ cc u, cc < 3 → x.cells[cc]? = some u → W.cell? ⟨gs, j * 3 + cc, none⟩ = some u) := Lib.hid (fun W hW cc u h1 h2 => by
        obtain ⟨g2, cap2, e2, hc2⟩ := HT.out.slo.cell HX.out
        have e3 : g2 = gs := by cases e2; rfl
        subst e3
        refine (World.cell?_of_block ?_).trans (hc2 cc u h1 h2)
        exact (hW.block _ (Nat.lt_of_lt_of_le hgs.out.1 HC5.out.size) (fun hb => by have h3 := hY2.out _ hb; have h4 := hgs.out.1; omega)).trans (HC5.out.block _ hgs.out.1 hgs.out.2))
      have HKC5 : Hid (Strs w5 (.slice (some ⟨g, 0, none⟩) (ksOf T i).length kc) (ksOf T i)) := Lib.hid (ownsRow_of HA.out.keys (fun g' hg => HC4.out.block g' (World.ownsRow.lt HA.out.keys g' hg).2 (fun hb => HA.out.apart g' hb hg)))
      have hj3 : Hid (j * 3 + 2 < m * 3) := Lib.hid (by have := HKL.out; omega)
      have hjm : (j : Int) < (m : Int) := by have := HKL.out; omega
      obtain ⟨x1, x2, x3⟩ := x
      go_upto_region 5 with (fail)
      have BLE : Below w5.heap.size w5 ({ w5 with drawn := w5.drawn + 1 } : World) := ⟨rfl, rfl, rfl, Nat.le_refl _, fun _ _ => rfl⟩
      refine wp_region_held (S := Chg (Y2) w5) (by kernel_rfl) ?_
      have hSE : Chg (Y2) w5 ({ w5 with drawn := w5.drawn + 1 } : World) := Chg.ofBelow BLE
      generalize ({ w5 with drawn := w5.drawn + 1 } : World) = wE at hSE BLE ⊢
      have q5E : ∀ W, Chg (Y2) w5 W → W.cell? ⟨tb, 5, none⟩ = some (.pointer (some ⟨d, 0, none⟩)) := fun W hW => (HH5.out.of (hW.block tb HH5.out.lt hY2t.out)).cell 5 _ rfl
      have q4E : ∀ W, Chg (Y2) w5 W → W.cell? ⟨tb, 4, none⟩ = some (.slice (some ⟨gs, 0, none⟩) m sc) := fun W hW => (HH5.out.of (hW.block tb HH5.out.lt hY2t.out)).cell 4 _ rfl
      have x0E : ∀ W, Chg (Y2) w5 W → W.cell? ⟨gs, j * 3, none⟩ = some (.int .i64 x1) := fun W hW => HX5.out W hW 0 _ (by decide) rfl
      have x1E : ∀ W, Chg (Y2) w5 W → W.cell? ⟨gs, j * 3 + 1, none⟩ = some (.int .i64 x2) := fun W hW => HX5.out W hW 1 _ (by decide) rfl
      have x2E : ∀ W, Chg (Y2) w5 W → W.cell? ⟨gs, j * 3 + 2, none⟩ = some (.string x3) := fun W hW => HX5.out W hW 2 _ (by decide) rfl
      refine takeH 0 (oi := ⟨some 31, _, _, _, _, _⟩) (v := ?_) rfl (by kernel_rfl) (by kernel_rfl) (by kernel_rfl) (fun _ _ _ h => h) (Or.inl ⟨by rfl, ?hyE20⟩) hSE ?restE20
      case hyE20 => (intro W hW; (try dsimp only at hW); go_simp; try with_reducible rfl)
      try simp only [Act.put, List.setIfInBounds_toArray, List.set_cons_zero, List.set_cons_succ]
      refine takeH 1 (oi := ⟨some 32, _, _, _, _, _⟩) (v := ?_) rfl (by kernel_rfl) (by kernel_rfl) (by kernel_rfl) (fun _ _ _ h => h) (Or.inl ⟨by rfl, ?hyE21⟩) hSE ?restE21
      case hyE21 => (intro W hW; (try dsimp only at hW); go_simp; try with_reducible rfl)
      try simp only [Act.put, List.setIfInBounds_toArray, List.set_cons_zero, List.set_cons_succ]
      refine takeH 2 (oi := ⟨some 33, _, _, _, _, _⟩) (v := ?_) rfl (by kernel_rfl) (by kernel_rfl) (by kernel_rfl) (fun _ _ _ h => h) (Or.inl ⟨by rfl, ?hyE22⟩) hSE ?restE22
      case hyE22 => (intro W hW; (try dsimp only at hW); go_simp; try with_reducible rfl)
      try simp only [Act.put, List.setIfInBounds_toArray, List.set_cons_zero, List.set_cons_succ]
      refine takeH 3 (oi := ⟨some 34, _, _, _, _, _⟩) (v := ?_) rfl (by kernel_rfl) (by kernel_rfl) (by kernel_rfl) (fun _ _ _ h => h) (Or.inl ⟨by rfl, ?hyE23⟩) hSE ?restE23
      case hyE23 => (intro W hW; (try dsimp only at hW); go_simp; try with_reducible rfl)
      try simp only [Act.put, List.setIfInBounds_toArray, List.set_cons_zero, List.set_cons_succ]
      refine takeH 4 (oi := ⟨some 35, _, _, _, _, _⟩) (v := ?_) rfl (by kernel_rfl) (by kernel_rfl) (by kernel_rfl) (fun _ _ _ h => h) (Or.inl ⟨by rfl, ?hyE24⟩) hSE ?restE24
      case hyE24 => (intro W hW; (try dsimp only at hW); go_simp; try with_reducible rfl)
      try simp only [Act.put, List.setIfInBounds_toArray, List.set_cons_zero, List.set_cons_succ]
      refine takeH 6 (oi := ⟨some 37, _, _, _, _, _⟩) (v := ?_) rfl (by kernel_rfl) (by kernel_rfl) (by kernel_rfl) (fun _ _ _ h => h) (Or.inl ⟨by rfl, ?hyE25⟩) hSE ?restE25
      case hyE25 => (intro W hW; (try dsimp only at hW); go_simp; try with_reducible rfl)
      try simp only [Act.put, List.setIfInBounds_toArray, List.set_cons_zero, List.set_cons_succ]
      refine takeH 7 (oi := ⟨some 38, _, _, _, _, _⟩) (v := ?_) rfl (by kernel_rfl) (by kernel_rfl) (by kernel_rfl) (fun _ _ _ h => h) (Or.inl ⟨by rfl, ?hyE26⟩) hSE ?restE26
      case hyE26 => (intro W hW; (try dsimp only at hW); go_simp; try with_reducible rfl)
      try simp only [Act.put, List.setIfInBounds_toArray, List.set_cons_zero, List.set_cons_succ]
      refine takeH 8 (oi := ⟨some 39, _, _, _, _, _⟩) (v := ?_) rfl (by kernel_rfl) (by kernel_rfl) (by kernel_rfl) (fun _ _ _ h => h) (Or.inl ⟨by rfl, ?hyE27⟩) hSE ?restE27
      case hyE27 => (intro W hW; (try dsimp only at hW); go_simp; try with_reducible rfl)
      try simp only [Act.put, List.setIfInBounds_toArray, List.set_cons_zero, List.set_cons_succ]
      refine takeH 9 (oi := ⟨some 40, _, _, _, _, _⟩) (v := ?_) rfl (by kernel_rfl) (by kernel_rfl) (by kernel_rfl) (fun _ _ _ h => h) (Or.inl ⟨by rfl, ?hyE28⟩) hSE ?restE28
      case hyE28 => (intro W hW; (try dsimp only at hW); go_simp; try with_reducible rfl)
      try simp only [Act.put, List.setIfInBounds_toArray, List.set_cons_zero, List.set_cons_succ]
      refine takeH 10 (oi := ⟨some 41, _, _, _, _, _⟩) (v := ?_) rfl (by kernel_rfl) (by kernel_rfl) (by kernel_rfl) (fun _ _ _ h => h) (Or.inl ⟨by rfl, ?hyE29⟩) hSE ?restE29
      case hyE29 => (intro W hW; (try dsimp only at hW); go_simp; try with_reducible rfl)
      try simp only [Act.put, List.setIfInBounds_toArray, List.set_cons_zero, List.set_cons_succ]
      refine takeH 11 (oi := ⟨some 42, _, _, _, _, _⟩) (v := ?_) rfl (by kernel_rfl) (by kernel_rfl) (by kernel_rfl) (fun _ _ _ h => h) (Or.inl ⟨by rfl, ?hyE30⟩) hSE ?restE30
      case hyE30 => (intro W hW; (try dsimp only at hW); go_simp; try with_reducible rfl)
      try simp only [Act.put, List.setIfInBounds_toArray, List.set_cons_zero, List.set_cons_succ]
      refine takeH 12 (oi := ⟨some 43, _, _, _, _, _⟩) (v := ?_) rfl (by kernel_rfl) (by kernel_rfl) (by kernel_rfl) (fun _ _ _ h => h) (Or.inl ⟨by rfl, ?hyE31⟩) hSE ?restE31
      case hyE31 => (intro W hW; (try dsimp only at hW); go_simp; try with_reducible rfl)
      try simp only [Act.put, List.setIfInBounds_toArray, List.set_cons_zero, List.set_cons_succ]
      refine one (i := 5) (by kernel_rfl) ?_
      refine wpOp_wanted rfl (by rfl) fun K hK => ?_
      go_simp
      with_reducible refine (ofStr_calls k _).mono ?_
      rintro e wE32 ⟨rfl, hb⟩
      have BLE32 : Below w5.heap.size w5 wE32 := BLE.trans (hb.mono BLE.size)
      have SE32 : Chg (Y2) w5 wE32 := Chg.ofBelow BLE32
      clear hb
      refine hK _ _ ⟨SE32, ?_⟩
      clear hK K
      try simp only [Act.put, List.setIfInBounds_toArray, List.set_cons_zero, List.set_cons_succ]
      refine one (i := 13) (by kernel_rfl) ?_
      refine wpOp_wanted rfl (by rfl) fun K hK => ?_
      go_simp
      with_reducible refine (dset_calls (HD4.out.below BLE32) (by have := hj64.out; omega) (strV k) ⟨x1, x2, x3⟩ hkz.out).mono ?_
      rintro e wE33 ⟨rfl, Y3, hd, hy, hc⟩
      have SE33 : Chg (Y2) w5 wE33 := (Chg.ofBelow BLE32).trans hc (fun b _ h => h)
      have HD6 := Lib.hid hd
      have HY6 : Hid (∀ b, Y3 b → Y2 b ∨ w5.heap.size ≤ b) := Lib.hid (fun b hb => (hy b hb).imp id (fun h => Nat.le_trans BLE32.size h))
      clear hd hy hc
      refine hK _ _ ⟨SE33, ?_⟩
      clear hK K
      try simp only [Act.put, List.setIfInBounds_toArray, List.set_cons_zero, List.set_cons_succ]
      refine wpAnyH_done (by kernel_rfl) ?_ _
      clear q5E q4E x0E x1E x2E
      have HC6 := Lib.hid (SE33)
      generalize wE33 = w7 at HC6 HD6 ⊢
      have HN : Hid (∃ Y', HashAt w tb tp mp av (.slice (some ⟨gs, 0, none⟩) m sc) (.slice (some ⟨g, 0, none⟩) (ksOf T i).length kc) i d (ksOf T i) S (j + 1) w7 Y') := Lib.hid (by
        have hd := HD6.out
        rw [hash_step (take_new HND.out HK.out) hxo.out, ← take_pairs HL.out HK.out HX.out] at hd
        refine ⟨Y3, hd.mono (by omega), fun b hb => (HY6.out b hb).elim (hY2.out b) (fun h => Nat.le_trans HC5.out.size h), fun b hb e => ?_, HH5.out.of (HC6.out.block tb HH5.out.lt hY2t.out), HC5.out.trans HC6.out (fun b hb h => by have := hY2.out b h; omega), ownsRow_of HKC5.out (fun g' hg => HC6.out.block g' (World.ownsRow.lt HKC5.out g' hg).2 (fun hb => ?_))⟩
        · rcases HY6.out b hb with h | h
          · rcases HY4.out b h with h2 | h2
            · exact HA.out.apart b h2 e
            · have := (World.ownsRow.lt HA.out.keys b e).2; omega
          · have := (World.ownsRow.lt HKC5.out b e).2; omega
        · rcases HY4.out g' hb with h2 | h2
          · exact HA.out.apart g' h2 hg
          · have := (World.ownsRow.lt HA.out.keys g' hg).2; omega)
      have HLT := Lib.hid hlt
      clear hlt hj
      go_wp2
      go_roundw
      case rel => exact ⟨j + 1, HLT.out, by first | rfl | go_num, HN⟩
      case measure => (have := HLT.out; simp only [intOf]; omega)
    · obtain rfl : j = (ksOf T i).length := by omega
      have c2 := HA.out.hd.cell 2 _ rfl
      have z2 := HA.out.hd.frozen 2
      have c3 := HA.out.hd.cell 3 _ rfl
      have z3 := HA.out.hd.frozen 3
      have c4 := HA.out.hd.cell 4 _ rfl
      have z4 := HA.out.hd.frozen 4
      clear hj hlt
      go_wp2
      have hd3 := ((HA.out.hd.setSame 2 (.int .i64 2)).setSame 3 (.int .i64 (-1))).setSame 4 (.slice none 0 0)
      have hch := ((HA.out.chg.setCell (a := ⟨tb, 2, none⟩) (fun _ => rfl) (.int .i64 2)).setCell (a := ⟨tb, 3, none⟩) (fun _ => rfl) (.int .i64 (-1))).setCell (a := ⟨tb, 4, none⟩) (fun _ => rfl) (.slice none 0 0)
      have hne : ∀ b, Y1 b → b ≠ tb := fun b hb e => by have h1 := HA.out.new b hb; have h2 := htl.out; omega
      refine bodyPost_end (by simp [results, Try.results150, go_sem]) rfl ⟨rfl, d, Y1, ⟨hd3, ?_, ?_, .inl HT.out.ownT, fun g hg => .inl (HT.out.ownA g hg), fun b hb => ⟨.inr hb, hne b hb, fun e => ?_⟩, ?_⟩, HA.out.new, hch⟩
      · exact HT.out.arr.of (fun g hg => hch.block g (HT.out.arr.lt g hg).2 (fun e => blk_ne_row HT.out.hd HT.out.arr hg (by decide) e.symm))
      · have h1 := HA.out.dict
        rw [List.take_length, ← HL.out, List.take_length] at h1
        exact (((h1.setC (a := ⟨tb, 2, none⟩) (fun hb => hne _ hb rfl) _).setC (a := ⟨tb, 3, none⟩) (fun hb => hne _ hb rfl) _).setC (a := ⟨tb, 4, none⟩) (fun hb => hne _ hb rfl) _).mono (by have h1 := H64.out; have h2 := HL.out; omega)
      · have h1 := HA.out.new b hb
        have h2 := (HT.out.arr.lt b e).2
        omega
      · intro b hb
        rcases hb with hb | hb
        · exact Nat.lt_of_lt_of_le (HT.out.lt b hb) hch.size
        · have := HA.out.dict.lt b hb
          simpa using this
end
end Go.Proofs.Ytmjfmfelbmbniaa

/- Layer 14: other. -/
namespace Go.Proofs.Ytmjfmfelbmbniaa
open Go.RowKit Go.Maps HK ShM
set_option linter.unusedVariables false
set_option linter.unusedSimpArgs false
open RH
section
variable {w w' : World} {X Y B : Nat → Prop} {tb i M N d : Nat} {tp mp av sv : Value} {T : List Sh} {A S : List Val} {R : Pairs} {s : Tab} {D F : Int}
theorem THa.setRest {w1 : World} {Y' : Nat → Prop} {R' : Pairs} {M' : Nat} (h : THa w X tb tp mp A R M av d Y) (hc : Chg Y w w1) (hd : DAt w1 Y' d R' M') (hy : ∀ b, Y' b → Y b ∨ w.heap.size ≤ b) : THa w1 (fun b => X b ∨ Y' b) tb tp mp A R' M' av d Y' := by
  have ht : ¬ Y tb := fun hb => (h.ownY tb hb).2.1 rfl
  have ha : ∀ g, av.ownBlock = some g → ¬ Y g := fun g hg hb => (h.ownY g hb).2.2 hg
  refine ⟨h.hd.of (hc.block tb h.hd.lt ht), h.arr.of (fun g hg => hc.block g (h.arr.lt g hg).2 (ha g hg)), hd, .inl h.ownT, fun g hg => .inl (h.ownA g hg), fun b hb => ⟨.inr hb, fun e => ?_, fun e => ?_⟩, fun b hb => ?_⟩
  · subst e
    rcases hy b hb with h1 | h1
    · exact ht h1
    · have := h.hd.lt; omega
  · rcases hy b hb with h1 | h1
    · exact ha b e h1
    · have := (h.arr.lt b e).2; omega
  · rcases hb with hb | hb
    · exact Nat.lt_of_lt_of_le (h.lt b hb) hc.size
    · exact hd.lt b hb
set_option maxHeartbeats 8000000 in
set_option maxRecDepth 20000 in
theorem tother_hatrue (h : THa w X tb tp mp A R M av d Y) (k1 k2 : Int) (k3 : ByteArray) (v1 v2 : Int) (v3 : ByteArray) (hk : k3.size ≤ maxLen) (hM : M < 131072) (hf : setF R ⟨k1, k2, k3⟩ ⟨v1, v2, v3⟩ = true) : Calls Try.prog 121 #[.pointer (some ⟨tb, 0, none⟩), Val.v ⟨k1, k2, k3⟩, Val.v ⟨v1, v2, v3⟩] w fun e w' => e = .returned (.int .i64 1) ∧
    ∃ X' Y', THa w' X' tb tp mp A (setL R ⟨k1, k2, k3⟩ ⟨v1, v2, v3⟩) (M + 1) av d Y' ∧ (∀ b, X' b → X b ∨ w.heap.size ≤ b) ∧ Chg X w w' := by
  have HT := Lib.hid h
  have HS := Lib.hid (fun (W : World) (h : DAt W Y d R M) => dset_calls h hM ⟨k1, k2, k3⟩ ⟨v1, v2, v3⟩ hk)
  rw [hf] at HS
  have HB0 : Hid (Below w.heap.size w ((w.alloc (.cells #[.int .i64 k1, .int .i64 k2, .string k3] 57)).alloc (.cells #[.int .i64 v1, .int .i64 v2, .string v3] 57))) := Lib.hid (by (repeat (first | exact Below.refl _ _ | (refine Below.alloc ?_ (by simp <;> omega) _))))
  have HK0 : Hid (Blk ((w.alloc (.cells #[.int .i64 k1, .int .i64 k2, .string k3] 57)).alloc (.cells #[.int .i64 v1, .int .i64 v2, .string v3] 57)) w.heap.size 57 [.int .i64 k1, .int .i64 k2, .string k3]) := Lib.hid ((Blk.new w [.int .i64 k1, .int .i64 k2, .string k3] 57).alloc _)
  have HV0 : Hid (Blk ((w.alloc (.cells #[.int .i64 k1, .int .i64 k2, .string k3] 57)).alloc (.cells #[.int .i64 v1, .int .i64 v2, .string v3] 57)) (w.heap.size + 1) 57 [.int .i64 v1, .int .i64 v2, .string v3]) := Lib.hid (by simpa using Blk.new (w.alloc (.cells #[.int .i64 k1, .int .i64 k2, .string k3] 57)) [.int .i64 v1, .int .i64 v2, .string v3] 57)
  have c2 := (h.below HB0.out).hd.cell 2 _ rfl
  have hY0 : Hid (∀ b, Y b → b < w.heap.size) := Lib.hid (h.dict.lt)
  clear hf hk hM h
  go_enter Try.func121, Try.ntmps121
  go_upto_region 15 with (fail)
  clear c2
  obtain ⟨w1, hw1⟩ : ∃ z, z = ((w.alloc (.cells #[.int .i64 k1, .int .i64 k2, .string k3] 57)).alloc (.cells #[.int .i64 v1, .int .i64 v2, .string v3] 57)) := ⟨_, rfl⟩
  have HB1 : Hid (Below w.heap.size w w1) := Lib.hid (by rw [hw1]; exact HB0.out)
  have HK1 : Hid (Blk w1 w.heap.size 57 [.int .i64 k1, .int .i64 k2, .string k3]) := Lib.hid (by rw [hw1]; exact HK0.out)
  have HV1 : Hid (Blk w1 (w.heap.size + 1) 57 [.int .i64 v1, .int .i64 v2, .string v3]) := Lib.hid (by rw [hw1]; exact HV0.out)
  rw [← hw1]
  clear hw1 HB0 HK0 HV0
  have HT1 : Hid (THa w1 X tb tp mp A R M av d Y) := Lib.hid (HT.out.below HB1.out)
  have hYt : Hid (¬ Y tb) := Lib.hid (fun hb => (HT.out.ownY tb hb).2.1 rfl)
  have hYk : Hid (¬ Y w.heap.size) := Lib.hid (fun hb => by have := hY0.out _ hb; omega)
  have hYv : Hid (¬ Y (w.heap.size + 1)) := Lib.hid (fun hb => by have := hY0.out _ hb; omega)
  have hu := Try.underlying57
  have BLA : Below w1.heap.size w1 ({ w1 with drawn := w1.drawn + 1 } : World) := ⟨rfl, rfl, rfl, Nat.le_refl _, fun _ _ => rfl⟩
  refine wp_region_held (S := Chg (Y) w1) (by kernel_rfl) ?_
  have hSA : Chg (Y) w1 ({ w1 with drawn := w1.drawn + 1 } : World) := Chg.ofBelow BLA
  generalize ({ w1 with drawn := w1.drawn + 1 } : World) = wA at hSA BLA ⊢
  have q5A : ∀ W, Chg (Y) w1 W → W.cell? ⟨tb, 5, none⟩ = some (.pointer (some ⟨d, 0, none⟩)) := fun W hW => (HT1.out.hd.of (hW.block tb HT1.out.hd.lt hYt.out)).cell 5 _ rfl
  have k0A : ∀ W, Chg (Y) w1 W → W.cell? ⟨w.heap.size, 0, none⟩ = some (.int .i64 k1) := fun W hW => (HK1.out.of (hW.block _ HK1.out.lt hYk.out)).cell 0 _ rfl
  have k1A : ∀ W, Chg (Y) w1 W → W.cell? ⟨w.heap.size, 1, none⟩ = some (.int .i64 k2) := fun W hW => (HK1.out.of (hW.block _ HK1.out.lt hYk.out)).cell 1 _ rfl
  have k2A : ∀ W, Chg (Y) w1 W → W.cell? ⟨w.heap.size, 2, none⟩ = some (.string k3) := fun W hW => (HK1.out.of (hW.block _ HK1.out.lt hYk.out)).cell 2 _ rfl
  have v0A : ∀ W, Chg (Y) w1 W → W.cell? ⟨w.heap.size + 1, 0, none⟩ = some (.int .i64 v1) := fun W hW => (HV1.out.of (hW.block _ HV1.out.lt hYv.out)).cell 0 _ rfl
  have v1A : ∀ W, Chg (Y) w1 W → W.cell? ⟨w.heap.size + 1, 1, none⟩ = some (.int .i64 v2) := fun W hW => (HV1.out.of (hW.block _ HV1.out.lt hYv.out)).cell 1 _ rfl
  have v2A : ∀ W, Chg (Y) w1 W → W.cell? ⟨w.heap.size + 1, 2, none⟩ = some (.string v3) := fun W hW => (HV1.out.of (hW.block _ HV1.out.lt hYv.out)).cell 2 _ rfl
  refine takeH 0 (oi := ⟨some 71, _, _, _, _, _⟩) (v := ?_) rfl (by kernel_rfl) (by kernel_rfl) (by kernel_rfl) (fun _ _ _ h => h) (Or.inl ⟨by rfl, ?hyA1⟩) hSA ?restA1
  case hyA1 => (intro W hW; (try dsimp only at hW); go_simp; try with_reducible rfl)
  try simp only [Act.put, List.setIfInBounds_toArray, List.set_cons_zero, List.set_cons_succ]
  refine takeH 1 (oi := ⟨some 72, _, _, _, _, _⟩) (v := ?_) rfl (by kernel_rfl) (by kernel_rfl) (by kernel_rfl) (fun _ _ _ h => h) (Or.inl ⟨by rfl, ?hyA2⟩) hSA ?restA2
  case hyA2 => (intro W hW; (try dsimp only at hW); go_simp; try with_reducible rfl)
  try simp only [Act.put, List.setIfInBounds_toArray, List.set_cons_zero, List.set_cons_succ]
  refine takeH 2 (oi := ⟨some 73, _, _, _, _, _⟩) (v := ?_) rfl (by kernel_rfl) (by kernel_rfl) (by kernel_rfl) (fun _ _ _ h => h) (Or.inl ⟨by rfl, ?hyA3⟩) hSA ?restA3
  case hyA3 => (intro W hW; (try dsimp only at hW); go_simp; try with_reducible rfl)
  try simp only [Act.put, List.setIfInBounds_toArray, List.set_cons_zero, List.set_cons_succ]
  refine takeH 3 (oi := ⟨some 74, _, _, _, _, _⟩) (v := ?_) rfl (by kernel_rfl) (by kernel_rfl) (by kernel_rfl) (fun _ _ _ h => h) (Or.inl ⟨by rfl, ?hyA4⟩) hSA ?restA4
  case hyA4 => (intro W hW; (try dsimp only at hW); go_simp; try with_reducible rfl)
  try simp only [Act.put, List.setIfInBounds_toArray, List.set_cons_zero, List.set_cons_succ]
  refine takeH 4 (oi := ⟨some 75, _, _, _, _, _⟩) (v := ?_) rfl (by kernel_rfl) (by kernel_rfl) (by kernel_rfl) (fun _ _ _ h => h) (Or.inl ⟨by rfl, ?hyA5⟩) hSA ?restA5
  case hyA5 => (intro W hW; (try dsimp only at hW); go_simp; try with_reducible rfl)
  try simp only [Act.put, List.setIfInBounds_toArray, List.set_cons_zero, List.set_cons_succ]
  refine takeH 5 (oi := ⟨some 76, _, _, _, _, _⟩) (v := ?_) rfl (by kernel_rfl) (by kernel_rfl) (by kernel_rfl) (fun _ _ _ h => h) (Or.inl ⟨by rfl, ?hyA6⟩) hSA ?restA6
  case hyA6 => (intro W hW; (try dsimp only at hW); go_simp; try with_reducible rfl)
  try simp only [Act.put, List.setIfInBounds_toArray, List.set_cons_zero, List.set_cons_succ]
  refine one (i := 6) (by kernel_rfl) ?_
  refine wpOp_wanted rfl (by rfl) fun K hK => ?_
  go_simp
  with_reducible refine (HS.out _ (HT1.out.dict.below BLA)).mono ?_
  rintro e wA7 ⟨rfl, Y2, hd, hy, hc⟩
  have SA7 : Chg (Y) w1 wA7 := (Chg.ofBelow BLA).trans hc (fun b _ h => h)
  have HD4 := Lib.hid hd
  have HY4 : Hid (∀ b, Y2 b → Y b ∨ w1.heap.size ≤ b) := Lib.hid (fun b hb => (hy b hb).imp id (fun h => Nat.le_trans BLA.size h))
  clear hd hy hc
  refine hK _ _ ⟨SA7, ?_⟩
  clear hK K
  try simp only [Act.put, List.setIfInBounds_toArray, List.set_cons_zero, List.set_cons_succ]
  refine takeH 7 (oi := ⟨some 70, _, _, _, _, _⟩) (v := ?_) rfl (by kernel_rfl) (by kernel_rfl) (by kernel_rfl) (fun _ _ _ h => h) (Or.inl ⟨by rfl, ?hyA8⟩) SA7 ?restA8
  case hyA8 => (intro W hW; (try dsimp only at hW); go_simp; try with_reducible rfl)
  try simp only [Act.put, List.setIfInBounds_toArray, List.set_cons_zero, List.set_cons_succ]
  refine takeH 8 (oi := ⟨some 78, _, _, _, _, _⟩) (v := ?_) rfl (by kernel_rfl) (by kernel_rfl) (by kernel_rfl) (fun _ _ _ h => h) (Or.inl ⟨by rfl, ?hyA9⟩) SA7 ?restA9
  case hyA9 => (intro W hW; (try dsimp only at hW); go_simp; try with_reducible rfl)
  try simp only [Act.put, List.setIfInBounds_toArray, List.set_cons_zero, List.set_cons_succ]
  refine takeH 9 (oi := ⟨some 79, _, _, _, _, _⟩) (v := ?_) rfl (by kernel_rfl) (by kernel_rfl) (by kernel_rfl) (fun _ _ _ h => h) (Or.inl ⟨by rfl, ?hyA10⟩) SA7 ?restA10
  case hyA10 => (intro W hW; (try dsimp only at hW); go_simp; try with_reducible rfl)
  try simp only [Act.put, List.setIfInBounds_toArray, List.set_cons_zero, List.set_cons_succ]
  refine takeH 10 (oi := ⟨some 11, _, _, _, _, _⟩) (v := ?_) rfl (by kernel_rfl) (by kernel_rfl) (by kernel_rfl) (fun _ _ _ h => h) (Or.inl ⟨by rfl, ?hyA11⟩) SA7 ?restA11
  case hyA11 => (intro W hW; (try dsimp only at hW); go_simp; try with_reducible rfl)
  try simp only [Act.put, List.setIfInBounds_toArray, List.set_cons_zero, List.set_cons_succ]
  refine takeH 11 (oi := ⟨some 12, _, _, _, _, _⟩) (v := ?_) rfl (by kernel_rfl) (by kernel_rfl) (by kernel_rfl) (fun _ _ _ h => h) (Or.inl ⟨by rfl, ?hyA12⟩) SA7 ?restA12
  case hyA12 => (intro W hW; (try dsimp only at hW); go_simp; try with_reducible rfl)
  try simp only [Act.put, List.setIfInBounds_toArray, List.set_cons_zero, List.set_cons_succ]
  refine wpAnyH_done (by kernel_rfl) ?_ _
  clear q5A k0A k1A k2A v0A v1A v2A
  have HC := Lib.hid (SA7)
  go_wp2
  go_ret
  exact ⟨rfl, fun b => X b ∨ Y2 b, Y2, HT1.out.setRest HC.out HD4.out HY4.out, fun b hb => hb.elim .inl (fun h => (HY4.out b h).elim (fun h2 => .inl (HT.out.ownY b h2).1) (fun h2 => .inr (Nat.le_trans HB1.out.size h2))), (Chg.ofBelow (B := X) HB1.out).trans HC.out (fun b _ hb => (HT.out.ownY b hb).1)⟩
set_option maxHeartbeats 8000000 in
set_option maxRecDepth 20000 in
theorem tother_hafalse (h : THa w X tb tp mp A R M av d Y) (k1 k2 : Int) (k3 : ByteArray) (v1 v2 : Int) (v3 : ByteArray) (hk : k3.size ≤ maxLen) (hM : M < 131072) (hf : setF R ⟨k1, k2, k3⟩ ⟨v1, v2, v3⟩ = false) : Calls Try.prog 121 #[.pointer (some ⟨tb, 0, none⟩), Val.v ⟨k1, k2, k3⟩, Val.v ⟨v1, v2, v3⟩] w fun e w' => e = .returned (.int .i64 0) ∧
    ∃ X' Y', THa w' X' tb tp mp A (setL R ⟨k1, k2, k3⟩ ⟨v1, v2, v3⟩) (M + 1) av d Y' ∧ (∀ b, X' b → X b ∨ w.heap.size ≤ b) ∧ Chg X w w' := by
  have HT := Lib.hid h
  have HS := Lib.hid (fun (W : World) (h : DAt W Y d R M) => dset_calls h hM ⟨k1, k2, k3⟩ ⟨v1, v2, v3⟩ hk)
  rw [hf] at HS
  have HB0 : Hid (Below w.heap.size w ((w.alloc (.cells #[.int .i64 k1, .int .i64 k2, .string k3] 57)).alloc (.cells #[.int .i64 v1, .int .i64 v2, .string v3] 57))) := Lib.hid (by (repeat (first | exact Below.refl _ _ | (refine Below.alloc ?_ (by simp <;> omega) _))))
  have HK0 : Hid (Blk ((w.alloc (.cells #[.int .i64 k1, .int .i64 k2, .string k3] 57)).alloc (.cells #[.int .i64 v1, .int .i64 v2, .string v3] 57)) w.heap.size 57 [.int .i64 k1, .int .i64 k2, .string k3]) := Lib.hid ((Blk.new w [.int .i64 k1, .int .i64 k2, .string k3] 57).alloc _)
  have HV0 : Hid (Blk ((w.alloc (.cells #[.int .i64 k1, .int .i64 k2, .string k3] 57)).alloc (.cells #[.int .i64 v1, .int .i64 v2, .string v3] 57)) (w.heap.size + 1) 57 [.int .i64 v1, .int .i64 v2, .string v3]) := Lib.hid (by simpa using Blk.new (w.alloc (.cells #[.int .i64 k1, .int .i64 k2, .string k3] 57)) [.int .i64 v1, .int .i64 v2, .string v3] 57)
  have c2 := (h.below HB0.out).hd.cell 2 _ rfl
  have hY0 : Hid (∀ b, Y b → b < w.heap.size) := Lib.hid (h.dict.lt)
  clear hf hk hM h
  go_enter Try.func121, Try.ntmps121
  go_upto_region 15 with (fail)
  clear c2
  obtain ⟨w1, hw1⟩ : ∃ z, z = ((w.alloc (.cells #[.int .i64 k1, .int .i64 k2, .string k3] 57)).alloc (.cells #[.int .i64 v1, .int .i64 v2, .string v3] 57)) := ⟨_, rfl⟩
  have HB1 : Hid (Below w.heap.size w w1) := Lib.hid (by rw [hw1]; exact HB0.out)
  have HK1 : Hid (Blk w1 w.heap.size 57 [.int .i64 k1, .int .i64 k2, .string k3]) := Lib.hid (by rw [hw1]; exact HK0.out)
  have HV1 : Hid (Blk w1 (w.heap.size + 1) 57 [.int .i64 v1, .int .i64 v2, .string v3]) := Lib.hid (by rw [hw1]; exact HV0.out)
  rw [← hw1]
  clear hw1 HB0 HK0 HV0
  have HT1 : Hid (THa w1 X tb tp mp A R M av d Y) := Lib.hid (HT.out.below HB1.out)
  have hYt : Hid (¬ Y tb) := Lib.hid (fun hb => (HT.out.ownY tb hb).2.1 rfl)
  have hYk : Hid (¬ Y w.heap.size) := Lib.hid (fun hb => by have := hY0.out _ hb; omega)
  have hYv : Hid (¬ Y (w.heap.size + 1)) := Lib.hid (fun hb => by have := hY0.out _ hb; omega)
  have hu := Try.underlying57
  have BLA : Below w1.heap.size w1 ({ w1 with drawn := w1.drawn + 1 } : World) := ⟨rfl, rfl, rfl, Nat.le_refl _, fun _ _ => rfl⟩
  refine wp_region_held (S := Chg (Y) w1) (by kernel_rfl) ?_
  have hSA : Chg (Y) w1 ({ w1 with drawn := w1.drawn + 1 } : World) := Chg.ofBelow BLA
  generalize ({ w1 with drawn := w1.drawn + 1 } : World) = wA at hSA BLA ⊢
  have q5A : ∀ W, Chg (Y) w1 W → W.cell? ⟨tb, 5, none⟩ = some (.pointer (some ⟨d, 0, none⟩)) := fun W hW => (HT1.out.hd.of (hW.block tb HT1.out.hd.lt hYt.out)).cell 5 _ rfl
  have k0A : ∀ W, Chg (Y) w1 W → W.cell? ⟨w.heap.size, 0, none⟩ = some (.int .i64 k1) := fun W hW => (HK1.out.of (hW.block _ HK1.out.lt hYk.out)).cell 0 _ rfl
  have k1A : ∀ W, Chg (Y) w1 W → W.cell? ⟨w.heap.size, 1, none⟩ = some (.int .i64 k2) := fun W hW => (HK1.out.of (hW.block _ HK1.out.lt hYk.out)).cell 1 _ rfl
  have k2A : ∀ W, Chg (Y) w1 W → W.cell? ⟨w.heap.size, 2, none⟩ = some (.string k3) := fun W hW => (HK1.out.of (hW.block _ HK1.out.lt hYk.out)).cell 2 _ rfl
  have v0A : ∀ W, Chg (Y) w1 W → W.cell? ⟨w.heap.size + 1, 0, none⟩ = some (.int .i64 v1) := fun W hW => (HV1.out.of (hW.block _ HV1.out.lt hYv.out)).cell 0 _ rfl
  have v1A : ∀ W, Chg (Y) w1 W → W.cell? ⟨w.heap.size + 1, 1, none⟩ = some (.int .i64 v2) := fun W hW => (HV1.out.of (hW.block _ HV1.out.lt hYv.out)).cell 1 _ rfl
  have v2A : ∀ W, Chg (Y) w1 W → W.cell? ⟨w.heap.size + 1, 2, none⟩ = some (.string v3) := fun W hW => (HV1.out.of (hW.block _ HV1.out.lt hYv.out)).cell 2 _ rfl
  refine takeH 0 (oi := ⟨some 71, _, _, _, _, _⟩) (v := ?_) rfl (by kernel_rfl) (by kernel_rfl) (by kernel_rfl) (fun _ _ _ h => h) (Or.inl ⟨by rfl, ?hyA13⟩) hSA ?restA13
  case hyA13 => (intro W hW; (try dsimp only at hW); go_simp; try with_reducible rfl)
  try simp only [Act.put, List.setIfInBounds_toArray, List.set_cons_zero, List.set_cons_succ]
  refine takeH 1 (oi := ⟨some 72, _, _, _, _, _⟩) (v := ?_) rfl (by kernel_rfl) (by kernel_rfl) (by kernel_rfl) (fun _ _ _ h => h) (Or.inl ⟨by rfl, ?hyA14⟩) hSA ?restA14
  case hyA14 => (intro W hW; (try dsimp only at hW); go_simp; try with_reducible rfl)
  try simp only [Act.put, List.setIfInBounds_toArray, List.set_cons_zero, List.set_cons_succ]
  refine takeH 2 (oi := ⟨some 73, _, _, _, _, _⟩) (v := ?_) rfl (by kernel_rfl) (by kernel_rfl) (by kernel_rfl) (fun _ _ _ h => h) (Or.inl ⟨by rfl, ?hyA15⟩) hSA ?restA15
  case hyA15 => (intro W hW; (try dsimp only at hW); go_simp; try with_reducible rfl)
  try simp only [Act.put, List.setIfInBounds_toArray, List.set_cons_zero, List.set_cons_succ]
  refine takeH 3 (oi := ⟨some 74, _, _, _, _, _⟩) (v := ?_) rfl (by kernel_rfl) (by kernel_rfl) (by kernel_rfl) (fun _ _ _ h => h) (Or.inl ⟨by rfl, ?hyA16⟩) hSA ?restA16
  case hyA16 => (intro W hW; (try dsimp only at hW); go_simp; try with_reducible rfl)
  try simp only [Act.put, List.setIfInBounds_toArray, List.set_cons_zero, List.set_cons_succ]
  refine takeH 4 (oi := ⟨some 75, _, _, _, _, _⟩) (v := ?_) rfl (by kernel_rfl) (by kernel_rfl) (by kernel_rfl) (fun _ _ _ h => h) (Or.inl ⟨by rfl, ?hyA17⟩) hSA ?restA17
  case hyA17 => (intro W hW; (try dsimp only at hW); go_simp; try with_reducible rfl)
  try simp only [Act.put, List.setIfInBounds_toArray, List.set_cons_zero, List.set_cons_succ]
  refine takeH 5 (oi := ⟨some 76, _, _, _, _, _⟩) (v := ?_) rfl (by kernel_rfl) (by kernel_rfl) (by kernel_rfl) (fun _ _ _ h => h) (Or.inl ⟨by rfl, ?hyA18⟩) hSA ?restA18
  case hyA18 => (intro W hW; (try dsimp only at hW); go_simp; try with_reducible rfl)
  try simp only [Act.put, List.setIfInBounds_toArray, List.set_cons_zero, List.set_cons_succ]
  refine one (i := 6) (by kernel_rfl) ?_
  refine wpOp_wanted rfl (by rfl) fun K hK => ?_
  go_simp
  with_reducible refine (HS.out _ (HT1.out.dict.below BLA)).mono ?_
  rintro e wA19 ⟨rfl, Y2, hd, hy, hc⟩
  have SA19 : Chg (Y) w1 wA19 := (Chg.ofBelow BLA).trans hc (fun b _ h => h)
  have HD4 := Lib.hid hd
  have HY4 : Hid (∀ b, Y2 b → Y b ∨ w1.heap.size ≤ b) := Lib.hid (fun b hb => (hy b hb).imp id (fun h => Nat.le_trans BLA.size h))
  clear hd hy hc
  refine hK _ _ ⟨SA19, ?_⟩
  clear hK K
  try simp only [Act.put, List.setIfInBounds_toArray, List.set_cons_zero, List.set_cons_succ]
  refine takeH 7 (oi := ⟨some 70, _, _, _, _, _⟩) (v := ?_) rfl (by kernel_rfl) (by kernel_rfl) (by kernel_rfl) (fun _ _ _ h => h) (Or.inl ⟨by rfl, ?hyA20⟩) SA19 ?restA20
  case hyA20 => (intro W hW; (try dsimp only at hW); go_simp; try with_reducible rfl)
  try simp only [Act.put, List.setIfInBounds_toArray, List.set_cons_zero, List.set_cons_succ]
  refine takeH 8 (oi := ⟨some 78, _, _, _, _, _⟩) (v := ?_) rfl (by kernel_rfl) (by kernel_rfl) (by kernel_rfl) (fun _ _ _ h => h) (Or.inl ⟨by rfl, ?hyA21⟩) SA19 ?restA21
  case hyA21 => (intro W hW; (try dsimp only at hW); go_simp; try with_reducible rfl)
  try simp only [Act.put, List.setIfInBounds_toArray, List.set_cons_zero, List.set_cons_succ]
  refine takeH 9 (oi := ⟨some 79, _, _, _, _, _⟩) (v := ?_) rfl (by kernel_rfl) (by kernel_rfl) (by kernel_rfl) (fun _ _ _ h => h) (Or.inl ⟨by rfl, ?hyA22⟩) SA19 ?restA22
  case hyA22 => (intro W hW; (try dsimp only at hW); go_simp; try with_reducible rfl)
  try simp only [Act.put, List.setIfInBounds_toArray, List.set_cons_zero, List.set_cons_succ]
  refine takeH 10 (oi := ⟨some 11, _, _, _, _, _⟩) (v := ?_) rfl (by kernel_rfl) (by kernel_rfl) (by kernel_rfl) (fun _ _ _ h => h) (Or.inl ⟨by rfl, ?hyA23⟩) SA19 ?restA23
  case hyA23 => (intro W hW; (try dsimp only at hW); go_simp; try with_reducible rfl)
  try simp only [Act.put, List.setIfInBounds_toArray, List.set_cons_zero, List.set_cons_succ]
  refine takeH 11 (oi := ⟨some 12, _, _, _, _, _⟩) (v := ?_) rfl (by kernel_rfl) (by kernel_rfl) (by kernel_rfl) (fun _ _ _ h => h) (Or.inl ⟨by rfl, ?hyA24⟩) SA19 ?restA24
  case hyA24 => (intro W hW; (try dsimp only at hW); go_simp; try with_reducible rfl)
  try simp only [Act.put, List.setIfInBounds_toArray, List.set_cons_zero, List.set_cons_succ]
  refine wpAnyH_done (by kernel_rfl) ?_ _
  clear q5A k0A k1A k2A v0A v1A v2A
  have HC := Lib.hid (SA19)
  go_wp2
  go_ret
  exact ⟨rfl, fun b => X b ∨ Y2 b, Y2, HT1.out.setRest HC.out HD4.out HY4.out, fun b hb => hb.elim .inl (fun h => (HY4.out b h).elim (fun h2 => .inl (HT.out.ownY b h2).1) (fun h2 => .inr (Nat.le_trans HB1.out.size h2))), (Chg.ofBelow (B := X) HB1.out).trans HC.out (fun b _ hb => (HT.out.ownY b hb).1)⟩
end
end Go.Proofs.Ytmjfmfelbmbniaa

/- Layer 14, plain: what a shape that is added is; a table over a tree that grows; a value behind a row. -/
namespace Go.Proofs.Ytmjfmfelbmbniaa
open Go.RowKit Go.Maps HK ShM
set_option linter.unusedVariables false
set_option linter.unusedSimpArgs false
section
variable {w w' : World} {X Y B : Nat → Prop} {tb i M N d : Nat} {tp mp av sv : Value} {T : List Sh} {A S : List Val} {R : Pairs} {s : Tab} {D F : Int}
theorem ksOf_app (T U : List Sh) {i : Nat} (h : i < T.length) : ksOf (T ++ U) i = ksOf T i := by
  unfold ksOf
  rw [List.getD_eq_getElem?_getD, List.getD_eq_getElem?_getD, List.getElem?_append_left h]
theorem TSh.grow (h : TSh w X tb tp mp T A i S av sv) (U : List Sh) : TSh w X tb tp mp (T ++ U) A i S av sv := by
  have e := ksOf_app T U h.lti
  exact { h with lti := by rw [List.length_append]; have := h.lti; omega, len := by rw [e]; exact h.len, nd := by rw [e]; exact h.nd, sz := by rw [e]; exact h.sz, le64 := by rw [e]; exact h.le64 }
theorem add_spec {z : ByteArray} (hw : WF D T) (hi : i < T.length) (hm : z ∉ ksOf T i) :
    ((addM D F T (i : Nat) z).ok = false ∧ (addM D F T (i : Nat) z).T = T) ∨ ((addM D F T (i : Nat) z).ok = true ∧ ∃ n : Nat, (addM D F T (i : Nat) z).r = n ∧ n < (addM D F T (i : Nat) z).T.length ∧ ksOf (addM D F T (i : Nat) z).T n = ksOf T i ++ [z]) := by
  cases hk : kidFrom T 0 i z with
  | some j =>
    have e := addM_kidAt (D := D) (F := F) hi hm hk
    obtain ⟨h1, h2, _⟩ := hw.kid hk
    rw [e]
    exact .inr ⟨rfl, j, rfl, h1, h2⟩
  | none =>
    have e := addM_new (D := D) (F := F) hi hm hk
    rw [e]
    split
    · exact .inl ⟨rfl, rfl⟩
    · refine .inr ⟨rfl, T.length, rfl, by simp, ?_⟩
      unfold ksOf
      simp [List.getD_eq_getElem?_getD]
end
end Go.Proofs.Ytmjfmfelbmbniaa

/- Layer 14: other, over a table whose rest is slots. -/
namespace Go.Proofs.Ytmjfmfelbmbniaa
open Go.RowKit Go.Maps HK ShM
set_option linter.unusedVariables false
set_option linter.unusedSimpArgs false
open RH
section
variable {w w' : World} {X Y B : Nat → Prop} {tb i M N d : Nat} {tp mp av sv : Value} {T : List Sh} {A S : List Val} {R : Pairs} {s : Tab} {D F : Int}
set_option maxHeartbeats 8000000 in
set_option maxRecDepth 20000 in
theorem tother_slot (h : TSh w X tb tp mp T A i S av sv) (ht : Tr w B tp D F T) (hB : ∀ b, B b → ¬ X b) (k1 k2 : Int) (k3 : ByteArray) (v1 v2 : Int) (v3 : ByteArray) (hk : k3.size ≤ maxLen) {j : Nat} {u : Val} (hj : S[j]? = some u) (hsl : slotX T i ⟨k1, k2, k3⟩ = some j) : Calls Try.prog 121 #[.pointer (some ⟨tb, 0, none⟩), Val.v ⟨k1, k2, k3⟩, Val.v ⟨v1, v2, v3⟩] w fun e w' => e = .returned (.int .i64 0) ∧ TSh w' X tb tp mp T A i (S.set j ⟨v1, v2, v3⟩) av sv ∧ Chg X w w' := by
  have HT := Lib.hid h
  have HTR := Lib.hid ht
  have hs0 : ∀ W, Below w.heap.size w W → Calls Try.prog 123 #[.pointer (some ⟨tb, 0, none⟩), Val.v ⟨k1, k2, k3⟩] W fun e w' => e = .returned (.tuple #[.int .i64 (j : Nat), .bool true]) ∧ Below W.heap.size W w' := fun W hW => by
    have h1 := tslot_calls (h.below hW) (ht.below hW) ⟨k1, k2, k3⟩ hk
    rw [hsl] at h1
    exact h1
  have HSL := Lib.hid hs0
  have HB0 : Hid (Below w.heap.size w ((w.alloc (.cells #[.int .i64 k1, .int .i64 k2, .string k3] 57)).alloc (.cells #[.int .i64 v1, .int .i64 v2, .string v3] 57))) := Lib.hid (by (repeat (first | exact Below.refl _ _ | (refine Below.alloc ?_ (by simp <;> omega) _))))
  have HK0 : Hid (Blk ((w.alloc (.cells #[.int .i64 k1, .int .i64 k2, .string k3] 57)).alloc (.cells #[.int .i64 v1, .int .i64 v2, .string v3] 57)) w.heap.size 57 [.int .i64 k1, .int .i64 k2, .string k3]) := Lib.hid ((Blk.new w [.int .i64 k1, .int .i64 k2, .string k3] 57).alloc _)
  have HV0 : Hid (Blk ((w.alloc (.cells #[.int .i64 k1, .int .i64 k2, .string k3] 57)).alloc (.cells #[.int .i64 v1, .int .i64 v2, .string v3] 57)) (w.heap.size + 1) 57 [.int .i64 v1, .int .i64 v2, .string v3]) := Lib.hid (by simpa using Blk.new (w.alloc (.cells #[.int .i64 k1, .int .i64 k2, .string k3] 57)) [.int .i64 v1, .int .i64 v2, .string v3] 57)
  have c2 := (h.below HB0.out).hd.cell 2 _ rfl
  have htl := Lib.hid (h.lt tb h.ownT)
  have HBX := Lib.hid hB
  obtain ⟨sa, sc, hsv, hsc1, hsc2⟩ := h.slo.form
  subst hsv
  obtain ⟨g, cap, he, _⟩ := h.slo.cell hj
  cases he
  have hjl := (List.getElem?_eq_some_iff.1 hj).1
  obtain ⟨m, hm⟩ : ∃ m, m = S.length := ⟨_, rfl⟩
  have EM := Lib.hid hm
  have HJ := Lib.hid hj
  have hj0 : (0 : Int) ≤ (j : Int) := by omega
  have hj1 : (j : Int) < (m : Int) := by omega
  have hj2 : j < m := by omega
  clear hs0 hsl hk h ht hB hj hjl hm hsc1 hsc2
  go_enter Try.func121, Try.ntmps121
  go_upto_region 5 with (go_at_call 123; go_loud ((with_reducible refine (HSL.out _ HB0.out).mono ?_); rintro e w1 ⟨rfl, hb⟩; have HB1 := Lib.hid (HB0.out.trans (hb.mono HB0.out.size)); have HK1 := Lib.hid (HK0.out.of (hb.block _ HK0.out.lt)); have HV1 := Lib.hid (HV0.out.of (hb.block _ HV0.out.lt)); clear hb; have k0 := HK1.out.cell 0 _ rfl; have v0 := HV1.out.cell 0 _ rfl))
  clear c2 k0 v0
  have hu := Try.underlying57
  have hB0 : Below w1.heap.size w1 ({ w1 with drawn := w1.drawn + 1 } : World) := ⟨rfl, rfl, rfl, Nat.le_refl _, fun _ _ => rfl⟩
  refine RG.region_F (Below w1.heap.size w1) 7 (by kernel_rfl) ?_
  have hS0 := hB0
  generalize ({ w1 with drawn := w1.drawn + 1 } : World) = w2 at hS0 hB0 ⊢
  have q4 : ∀ W, Below w1.heap.size w1 W → W.cell? ⟨tb, 4, none⟩ = some (.slice (some ⟨g, 0, none⟩) m sc) := fun W hW => by rw [EM.out]; exact (HT.out.below (HB1.out.trans (hW.mono HB1.out.size))).hd.cell 4 _ rfl
  have p0 : ∀ W, Below w1.heap.size w1 W → W.cell? ⟨w.heap.size + 1, 0, none⟩ = some (.int .i64 v1) := fun W hW => (HV1.out.of (hW.block _ HV1.out.lt)).cell 0 _ rfl
  have p1 : ∀ W, Below w1.heap.size w1 W → W.cell? ⟨w.heap.size + 1, 1, none⟩ = some (.int .i64 v2) := fun W hW => (HV1.out.of (hW.block _ HV1.out.lt)).cell 1 _ rfl
  have p2 : ∀ W, Below w1.heap.size w1 W → W.cell? ⟨w.heap.size + 1, 2, none⟩ = some (.string v3) := fun W hW => (HV1.out.of (hW.block _ HV1.out.lt)).cell 2 _ rfl
  refine RG.takeF 0 (oi := ⟨some 26, _, _, _, _, _⟩) (v := ?_) rfl (by kernel_rfl) (by kernel_rfl) (by kernel_rfl) (by kernel_rfl) (fun _ _ _ h => h) (Or.inl ⟨by rfl, ?hyA0⟩) hS0 ?restA0
  case hyA0 => (intro W hW; (try dsimp only at hW); go_simp; try with_reducible rfl)
  try simp only [Act.put, List.setIfInBounds_toArray, List.set_cons_zero, List.set_cons_succ]
  refine RG.takeF 1 (oi := ⟨some 27, _, _, _, _, _⟩) (v := ?_) rfl (by kernel_rfl) (by kernel_rfl) (by kernel_rfl) (by kernel_rfl) (fun _ _ _ h => h) (Or.inl ⟨by rfl, ?hyA1⟩) hS0 ?restA1
  case hyA1 => (intro W hW; (try dsimp only at hW); go_simp; try with_reducible rfl)
  try simp only [Act.put, List.setIfInBounds_toArray, List.set_cons_zero, List.set_cons_succ]
  refine RG.takeF 2 (oi := ⟨some 28, _, _, _, _, _⟩) (v := ?_) rfl (by kernel_rfl) (by kernel_rfl) (by kernel_rfl) (by kernel_rfl) (fun _ _ _ h => h) (Or.inl ⟨by rfl, ?hyA2⟩) hS0 ?restA2
  case hyA2 => (intro W hW; (try dsimp only at hW); go_simp; try with_reducible rfl)
  try simp only [Act.put, List.setIfInBounds_toArray, List.set_cons_zero, List.set_cons_succ]
  refine RG.takeF 3 (oi := ⟨some 29, _, _, _, _, _⟩) (v := ?_) rfl (by kernel_rfl) (by kernel_rfl) (by kernel_rfl) (by kernel_rfl) (fun _ _ _ h => h) (Or.inl ⟨by rfl, ?hyA3⟩) hS0 ?restA3
  case hyA3 => (intro W hW; (try dsimp only at hW); go_simp; try with_reducible rfl)
  try simp only [Act.put, List.setIfInBounds_toArray, List.set_cons_zero, List.set_cons_succ]
  refine RG.takeF 4 (oi := ⟨some 30, _, _, _, _, _⟩) (v := ?_) rfl (by kernel_rfl) (by kernel_rfl) (by kernel_rfl) (by kernel_rfl) (fun _ _ _ h => h) (Or.inl ⟨by rfl, ?hyA4⟩) hS0 ?restA4
  case hyA4 => (intro W hW; (try dsimp only at hW); go_simp; try with_reducible rfl)
  try simp only [Act.put, List.setIfInBounds_toArray, List.set_cons_zero, List.set_cons_succ]
  refine RG.takeF 5 (oi := ⟨some 31, _, _, _, _, _⟩) (v := ?_) rfl (by kernel_rfl) (by kernel_rfl) (by kernel_rfl) (by kernel_rfl) (fun _ _ _ h => h) (Or.inl ⟨by rfl, ?hyA5⟩) hS0 ?restA5
  case hyA5 => (intro W hW; (try dsimp only at hW); go_simp; try with_reducible rfl)
  try simp only [Act.put, List.setIfInBounds_toArray, List.set_cons_zero, List.set_cons_succ]
  refine RG.takeF 6 (oi := ⟨some 32, _, _, _, _, _⟩) (v := ?_) rfl (by kernel_rfl) (by kernel_rfl) (by kernel_rfl) (by kernel_rfl) (fun _ _ _ h => h) (Or.inl ⟨by rfl, ?hyA6⟩) hS0 ?restA6
  case hyA6 => (intro W hW; (try dsimp only at hW); go_simp; try with_reducible rfl)
  try simp only [Act.put, List.setIfInBounds_toArray, List.set_cons_zero, List.set_cons_succ]
  have hB3 := HB1.out.trans (hS0.mono HB1.out.size)
  have HB3 := Lib.hid hB3
  obtain ⟨g', cap', he, hcl⟩ := (HT.out.below hB3).slo.cell HJ.out
  cases he
  have y0 := hcl 0 _ (by decide) rfl
  have y1 := hcl 1 _ (by decide) rfl
  have y2 := hcl 2 _ (by decide) rfl
  rw [Nat.add_zero] at y0
  have r0 := row_frozen (HT.out.below hB3).slo (j * 3)
  have r1 := row_frozen (HT.out.below hB3).slo (j * 3 + 1)
  have r2 := row_frozen (HT.out.below hB3).slo (j * 3 + 2)
  clear hcl hB3
  refine RG.lastF (by kernel_rfl) (by kernel_rfl) ?_
  refine RG.wpOp_wanted rfl (by rfl) fun K hK => ?_
  go_simp
  refine hK _ _ ?_
  clear hK K
  try simp only [Act.put, List.setIfInBounds_toArray, List.set_cons_zero, List.set_cons_succ]
  clear q4 p0 p1 p2 y0 y1 y2 r0 r1 r2
  go_wp2
  go_ret
  have hg : X g := HT.out.ownS g rfl
  refine ⟨rfl, (HT.out.below HB3.out).setSlot (v := ⟨v1, v2, v3⟩) HJ.out, ((((Chg.ofBelow HB3.out).setCell (fun _ => hg) _).setCell (fun _ => hg) _).setCell (fun _ => hg) _)⟩
set_option maxHeartbeats 8000000 in
set_option maxRecDepth 20000 in
theorem tother_nil (h : TSh w X tb tp mp T A i S av sv) (ht : Tr w B tp D F T) (hB : ∀ b, B b → ¬ X b) (k1 k2 : Int) (k3 : ByteArray) (v1 v2 : Int) (v3 : ByteArray) (hk : k3.size ≤ maxLen) (hsl : slotX T i ⟨k1, k2, k3⟩ = none) (hv : v1 = 0) : Calls Try.prog 121 #[.pointer (some ⟨tb, 0, none⟩), Val.v ⟨k1, k2, k3⟩, Val.v ⟨v1, v2, v3⟩] w fun e w' => e = .returned (.int .i64 0) ∧ Below w.heap.size w w' := by
  have HT := Lib.hid h
  have HTR := Lib.hid ht
  have hs0 : ∀ W, Below w.heap.size w W → Calls Try.prog 123 #[.pointer (some ⟨tb, 0, none⟩), Val.v ⟨k1, k2, k3⟩] W fun e w' => e = .returned (.tuple #[.int .i64 0, .bool false]) ∧ Below W.heap.size W w' := fun W hW => by
    have h1 := tslot_calls (h.below hW) (ht.below hW) ⟨k1, k2, k3⟩ hk
    rw [hsl] at h1
    exact h1
  have HSL := Lib.hid hs0
  have HB0 : Hid (Below w.heap.size w ((w.alloc (.cells #[.int .i64 k1, .int .i64 k2, .string k3] 57)).alloc (.cells #[.int .i64 v1, .int .i64 v2, .string v3] 57))) := Lib.hid (by (repeat (first | exact Below.refl _ _ | (refine Below.alloc ?_ (by simp <;> omega) _))))
  have HK0 : Hid (Blk ((w.alloc (.cells #[.int .i64 k1, .int .i64 k2, .string k3] 57)).alloc (.cells #[.int .i64 v1, .int .i64 v2, .string v3] 57)) w.heap.size 57 [.int .i64 k1, .int .i64 k2, .string k3]) := Lib.hid ((Blk.new w [.int .i64 k1, .int .i64 k2, .string k3] 57).alloc _)
  have HV0 : Hid (Blk ((w.alloc (.cells #[.int .i64 k1, .int .i64 k2, .string k3] 57)).alloc (.cells #[.int .i64 v1, .int .i64 v2, .string v3] 57)) (w.heap.size + 1) 57 [.int .i64 v1, .int .i64 v2, .string v3]) := Lib.hid (by simpa using Blk.new (w.alloc (.cells #[.int .i64 k1, .int .i64 k2, .string k3] 57)) [.int .i64 v1, .int .i64 v2, .string v3] 57)
  have c2 := (h.below HB0.out).hd.cell 2 _ rfl
  have htl := Lib.hid (h.lt tb h.ownT)
  have HBX := Lib.hid hB
  subst hv
  clear hs0 hsl hk h ht hB
  go_enter Try.func121, Try.ntmps121
  go_wp2_with (go_at_call 123; go_loud ((with_reducible refine (HSL.out _ HB0.out).mono ?_); rintro e w1 ⟨rfl, hb⟩; have HB1 := Lib.hid (HB0.out.trans (hb.mono HB0.out.size)); have HK1 := Lib.hid (HK0.out.of (hb.block _ HK0.out.lt)); have HV1 := Lib.hid (HV0.out.of (hb.block _ HV0.out.lt)); clear hb; have k0 := HK1.out.cell 0 _ rfl; have v0 := HV1.out.cell 0 _ rfl))
  go_ret
  exact ⟨rfl, HB1.out⟩
set_option maxHeartbeats 8000000 in
set_option maxRecDepth 20000 in
theorem tother_add (h : TSh w X tb tp mp T A i S av sv) (ht : Tr w B tp D F T) (hB : ∀ b, B b → ¬ X b) (k1 k2 : Int) (k3 : ByteArray) (v1 v2 : Int) (v3 : ByteArray) (hk : k3.size ≤ maxLen) {n : Nat} (hsl : slotX T i ⟨k1, k2, k3⟩ = none) (hv : v1 ≠ 0) (hk1 : k1 = 3) (hok : (addM D F T (i : Nat) k3).ok = true) (hr : (addM D F T (i : Nat) k3).r = (n : Nat)) (hn : n < (addM D F T (i : Nat) k3).T.length) (hks : ksOf (addM D F T (i : Nat) k3).T n = ksOf T i ++ [k3]) (hm : k3 ∉ ksOf T i) (hS6 : S.length ≤ 1000) : Calls Try.prog 121 #[.pointer (some ⟨tb, 0, none⟩), Val.v ⟨k1, k2, k3⟩, Val.v ⟨v1, v2, v3⟩] w fun e w' => e = .returned (.int .i64 1) ∧ ∃ X' B' sv', TSh w' X' tb tp mp (addM D F T (i : Nat) k3).T A n (S ++ [⟨v1, v2, v3⟩]) av sv' ∧ Tr w' B' tp D F (addM D F T (i : Nat) k3).T ∧ (∀ b, X' b → X b ∨ w.heap.size ≤ b) ∧ (∀ b, B' b → B b ∨ w.heap.size ≤ b) ∧ (∀ b, B' b → ¬ X' b) ∧ Chg (fun b => X b ∨ B b) w w' := by
  have HT := Lib.hid h
  have HTR := Lib.hid ht
  have hs0 : ∀ W, Below w.heap.size w W → Calls Try.prog 123 #[.pointer (some ⟨tb, 0, none⟩), Val.v ⟨k1, k2, k3⟩] W fun e w' => e = .returned (.tuple #[.int .i64 0, .bool false]) ∧ Below W.heap.size W w' := fun W hW => by
    have h1 := tslot_calls (h.below hW) (ht.below hW) ⟨k1, k2, k3⟩ hk
    rw [hsl] at h1
    exact h1
  have HSL := Lib.hid hs0
  have HB0 : Hid (Below w.heap.size w ((w.alloc (.cells #[.int .i64 k1, .int .i64 k2, .string k3] 57)).alloc (.cells #[.int .i64 v1, .int .i64 v2, .string v3] 57))) := Lib.hid (by (repeat (first | exact Below.refl _ _ | (refine Below.alloc ?_ (by simp <;> omega) _))))
  have HK0 : Hid (Blk ((w.alloc (.cells #[.int .i64 k1, .int .i64 k2, .string k3] 57)).alloc (.cells #[.int .i64 v1, .int .i64 v2, .string v3] 57)) w.heap.size 57 [.int .i64 k1, .int .i64 k2, .string k3]) := Lib.hid ((Blk.new w [.int .i64 k1, .int .i64 k2, .string k3] 57).alloc _)
  have HV0 : Hid (Blk ((w.alloc (.cells #[.int .i64 k1, .int .i64 k2, .string k3] 57)).alloc (.cells #[.int .i64 v1, .int .i64 v2, .string v3] 57)) (w.heap.size + 1) 57 [.int .i64 v1, .int .i64 v2, .string v3]) := Lib.hid (by simpa using Blk.new (w.alloc (.cells #[.int .i64 k1, .int .i64 k2, .string k3] 57)) [.int .i64 v1, .int .i64 v2, .string v3] 57)
  have c2 := (h.below HB0.out).hd.cell 2 _ rfl
  have htl := Lib.hid (h.lt tb h.ownT)
  have HBX := Lib.hid hB
  have hk0 : (k1 == 3) = true := by rw [hk1]; rfl
  have hvf : (v1 == 0) = false := by simpa using hv
  subst hk1
  have ha0 : ∀ W, Below w.heap.size w W → Calls Try.prog 28 #[tp, .int .i64 (i : Nat), .string k3] W fun e w' => e = .returned (.tuple #[.int .i64 (n : Nat), .bool true]) ∧ TrGrown W w' B tp D F (addM D F T (i : Nat) k3).T := fun W hW => by
    have h1 := (ht.below hW).add (i : Nat) k3 hk
    rw [hr, hok] at h1
    exact h1
  have HAD := Lib.hid ha0
  have HN := Lib.hid (And.intro hn (And.intro hks (And.intro hm hS6)))
  obtain ⟨U, hU⟩ := addM_extT D F T (i : Nat) k3
  have HU := Lib.hid hU
  have HKZ := Lib.hid hk
  obtain ⟨T', hT'⟩ : ∃ T', T' = (addM D F T (i : Nat) k3).T := ⟨_, rfl⟩
  rw [← hT'] at HAD HN HU ⊢
  obtain ⟨sa, sc, hsv, hsc1, hsc2⟩ := h.slo.form
  subst hsv
  obtain ⟨m, hm2⟩ : ∃ m, m = S.length := ⟨_, rfl⟩
  have EM := Lib.hid hm2
  have hBt : Hid (¬ B tb) := Lib.hid (fun hb => hB tb hb h.ownT)
  have hBk : Hid (¬ B w.heap.size) := Lib.hid (fun hb => by have := ht.lt _ hb; omega)
  have hBv : Hid (¬ B (w.heap.size + 1)) := Lib.hid (fun hb => by have := ht.lt _ hb; omega)
  clear hs0 hsl hk h ht hB ha0 hv hk0 hok hr hn hks hm hS6 hU hT' hsc1 hsc2 hm2
  go_enter Try.func121, Try.ntmps121
  go_upto_region 10 with (go_at_call 123; go_loud ((with_reducible refine (HSL.out _ HB0.out).mono ?_); rintro e w1 ⟨rfl, hb⟩; have HB1 := Lib.hid (HB0.out.trans (hb.mono HB0.out.size)); have HK1 := Lib.hid (HK0.out.of (hb.block _ HK0.out.lt)); have HV1 := Lib.hid (HV0.out.of (hb.block _ HV0.out.lt)); clear hb; have k0 := HK1.out.cell 0 _ rfl; have v0 := HV1.out.cell 0 _ rfl))
  clear c2 k0 v0 hvf
  have hu := Try.underlying57
  have HT1 := Lib.hid (HT.out.below HB1.out)
  have BLC : Below w1.heap.size w1 ({ w1 with drawn := w1.drawn + 1 } : World) := ⟨rfl, rfl, rfl, Nat.le_refl _, fun _ _ => rfl⟩
  refine wp_region_held (S := Chg (B) w1) (by kernel_rfl) ?_
  have hSC : Chg (B) w1 ({ w1 with drawn := w1.drawn + 1 } : World) := Chg.ofBelow BLC
  generalize ({ w1 with drawn := w1.drawn + 1 } : World) = wC at hSC BLC ⊢
  have q1C : ∀ W, Chg (B) w1 W → W.cell? ⟨tb, 1, none⟩ = some (tp) := fun W hW => (HT1.out.hd.of (hW.block tb HT1.out.hd.lt hBt.out)).cell 1 _ rfl
  have q3C : ∀ W, Chg (B) w1 W → W.cell? ⟨tb, 3, none⟩ = some (.int .i64 (i : Nat)) := fun W hW => (HT1.out.hd.of (hW.block tb HT1.out.hd.lt hBt.out)).cell 3 _ rfl
  have k0C : ∀ W, Chg (B) w1 W → W.cell? ⟨w.heap.size, 0, none⟩ = some (.int .i64 3) := fun W hW => (HK1.out.of (hW.block _ HK1.out.lt hBk.out)).cell 0 _ rfl
  have k1C : ∀ W, Chg (B) w1 W → W.cell? ⟨w.heap.size, 1, none⟩ = some (.int .i64 k2) := fun W hW => (HK1.out.of (hW.block _ HK1.out.lt hBk.out)).cell 1 _ rfl
  have k2C : ∀ W, Chg (B) w1 W → W.cell? ⟨w.heap.size, 2, none⟩ = some (.string k3) := fun W hW => (HK1.out.of (hW.block _ HK1.out.lt hBk.out)).cell 2 _ rfl
  refine takeH 0 (oi := ⟨some 40, _, _, _, _, _⟩) (v := ?_) rfl (by kernel_rfl) (by kernel_rfl) (by kernel_rfl) (fun _ _ _ h => h) (Or.inl ⟨by rfl, ?hyC1⟩) hSC ?restC1
  case hyC1 => (intro W hW; (try dsimp only at hW); go_simp; try with_reducible rfl)
  try simp only [Act.put, List.setIfInBounds_toArray, List.set_cons_zero, List.set_cons_succ]
  refine takeH 1 (oi := ⟨some 41, _, _, _, _, _⟩) (v := ?_) rfl (by kernel_rfl) (by kernel_rfl) (by kernel_rfl) (fun _ _ _ h => h) (Or.inl ⟨by rfl, ?hyC2⟩) hSC ?restC2
  case hyC2 => (intro W hW; (try dsimp only at hW); go_simp; try with_reducible rfl)
  try simp only [Act.put, List.setIfInBounds_toArray, List.set_cons_zero, List.set_cons_succ]
  refine takeH 2 (oi := ⟨some 42, _, _, _, _, _⟩) (v := ?_) rfl (by kernel_rfl) (by kernel_rfl) (by kernel_rfl) (fun _ _ _ h => h) (Or.inl ⟨by rfl, ?hyC3⟩) hSC ?restC3
  case hyC3 => (intro W hW; (try dsimp only at hW); go_simp; try with_reducible rfl)
  try simp only [Act.put, List.setIfInBounds_toArray, List.set_cons_zero, List.set_cons_succ]
  refine takeH 3 (oi := ⟨some 43, _, _, _, _, _⟩) (v := ?_) rfl (by kernel_rfl) (by kernel_rfl) (by kernel_rfl) (fun _ _ _ h => h) (Or.inl ⟨by rfl, ?hyC4⟩) hSC ?restC4
  case hyC4 => (intro W hW; (try dsimp only at hW); go_simp; try with_reducible rfl)
  try simp only [Act.put, List.setIfInBounds_toArray, List.set_cons_zero, List.set_cons_succ]
  refine takeH 4 (oi := ⟨some 44, _, _, _, _, _⟩) (v := ?_) rfl (by kernel_rfl) (by kernel_rfl) (by kernel_rfl) (fun _ _ _ h => h) (Or.inl ⟨by rfl, ?hyC5⟩) hSC ?restC5
  case hyC5 => (intro W hW; (try dsimp only at hW); go_simp; try with_reducible rfl)
  try simp only [Act.put, List.setIfInBounds_toArray, List.set_cons_zero, List.set_cons_succ]
  refine takeH 5 (oi := ⟨some 45, _, _, _, _, _⟩) (v := ?_) rfl (by kernel_rfl) (by kernel_rfl) (by kernel_rfl) (fun _ _ _ h => h) (Or.inl ⟨by rfl, ?hyC6⟩) hSC ?restC6
  case hyC6 => (intro W hW; (try dsimp only at hW); go_simp; try with_reducible rfl)
  try simp only [Act.put, List.setIfInBounds_toArray, List.set_cons_zero, List.set_cons_succ]
  refine takeH 6 (oi := ⟨some 46, _, _, _, _, _⟩) (v := ?_) rfl (by kernel_rfl) (by kernel_rfl) (by kernel_rfl) (fun _ _ _ h => h) (Or.inl ⟨by rfl, ?hyC7⟩) hSC ?restC7
  case hyC7 => (intro W hW; (try dsimp only at hW); go_simp; try with_reducible rfl)
  try simp only [Act.put, List.setIfInBounds_toArray, List.set_cons_zero, List.set_cons_succ]
  refine takeH 7 (oi := ⟨some 47, _, _, _, _, _⟩) (v := ?_) rfl (by kernel_rfl) (by kernel_rfl) (by kernel_rfl) (fun _ _ _ h => h) (Or.inl ⟨by rfl, ?hyC8⟩) hSC ?restC8
  case hyC8 => (intro W hW; (try dsimp only at hW); go_simp; try with_reducible rfl)
  try simp only [Act.put, List.setIfInBounds_toArray, List.set_cons_zero, List.set_cons_succ]
  refine takeH 8 (oi := ⟨some 48, _, _, _, _, _⟩) (v := ?_) rfl (by kernel_rfl) (by kernel_rfl) (by kernel_rfl) (fun _ _ _ h => h) (Or.inl ⟨by rfl, ?hyC9⟩) hSC ?restC9
  case hyC9 => (intro W hW; (try dsimp only at hW); go_simp; try with_reducible rfl)
  try simp only [Act.put, List.setIfInBounds_toArray, List.set_cons_zero, List.set_cons_succ]
  refine takeH 9 (oi := ⟨some 49, _, _, _, _, _⟩) (v := ?_) rfl (by kernel_rfl) (by kernel_rfl) (by kernel_rfl) (fun _ _ _ h => h) (Or.inl ⟨by rfl, ?hyC10⟩) hSC ?restC10
  case hyC10 => (intro W hW; (try dsimp only at hW); go_simp; try with_reducible rfl)
  try simp only [Act.put, List.setIfInBounds_toArray, List.set_cons_zero, List.set_cons_succ]
  refine one (i := 10) (by kernel_rfl) ?_
  refine wpOp_wanted rfl (by rfl) fun K hK => ?_
  go_simp
  with_reducible refine (HAD.out _ (HB1.out.trans (BLC.mono HB1.out.size))).mono ?_
  rintro e wC11 ⟨rfl, B2, hd, hc, hy⟩
  have SC11 : Chg (B) w1 wC11 := (Chg.ofBelow BLC).trans hc (fun b _ h => h)
  have HTR4 := Lib.hid hd
  have HB4 : Hid (∀ b, B2 b → B b ∨ w1.heap.size ≤ b) := Lib.hid (fun b hb => (hy b hb).imp id (fun h => Nat.le_trans BLC.size h))
  clear hd hy hc
  refine hK _ _ ⟨SC11, ?_⟩
  clear hK K
  try simp only [Act.put, List.setIfInBounds_toArray, List.set_cons_zero, List.set_cons_succ]
  refine takeH 11 (oi := ⟨some 39, _, _, _, _, _⟩) (v := ?_) rfl (by kernel_rfl) (by kernel_rfl) (by kernel_rfl) (fun _ _ _ h => h) (Or.inl ⟨by rfl, ?hyC12⟩) SC11 ?restC12
  case hyC12 => (intro W hW; (try dsimp only at hW); go_simp; try with_reducible rfl)
  try simp only [Act.put, List.setIfInBounds_toArray, List.set_cons_zero, List.set_cons_succ]
  refine takeH 12 (oi := ⟨some 51, _, _, _, _, _⟩) (v := ?_) rfl (by kernel_rfl) (by kernel_rfl) (by kernel_rfl) (fun _ _ _ h => h) (Or.inl ⟨by rfl, ?hyC13⟩) SC11 ?restC13
  case hyC13 => (intro W hW; (try dsimp only at hW); go_simp; try with_reducible rfl)
  try simp only [Act.put, List.setIfInBounds_toArray, List.set_cons_zero, List.set_cons_succ]
  refine takeH 13 (oi := ⟨some 52, _, _, _, _, _⟩) (v := ?_) rfl (by kernel_rfl) (by kernel_rfl) (by kernel_rfl) (fun _ _ _ h => h) (Or.inl ⟨by rfl, ?hyC14⟩) SC11 ?restC14
  case hyC14 => (intro W hW; (try dsimp only at hW); go_simp; try with_reducible rfl)
  try simp only [Act.put, List.setIfInBounds_toArray, List.set_cons_zero, List.set_cons_succ]
  refine takeH 14 (oi := ⟨some 9, _, _, _, _, _⟩) (v := ?_) rfl (by kernel_rfl) (by kernel_rfl) (by kernel_rfl) (fun _ _ _ h => h) (Or.inl ⟨by rfl, ?hyC15⟩) SC11 ?restC15
  case hyC15 => (intro W hW; (try dsimp only at hW); go_simp; try with_reducible rfl)
  try simp only [Act.put, List.setIfInBounds_toArray, List.set_cons_zero, List.set_cons_succ]
  refine takeH 15 (oi := ⟨some 10, _, _, _, _, _⟩) (v := ?_) rfl (by kernel_rfl) (by kernel_rfl) (by kernel_rfl) (fun _ _ _ h => h) (Or.inl ⟨by rfl, ?hyC16⟩) SC11 ?restC16
  case hyC16 => (intro W hW; (try dsimp only at hW); go_simp; try with_reducible rfl)
  try simp only [Act.put, List.setIfInBounds_toArray, List.set_cons_zero, List.set_cons_succ]
  refine wpAnyH_done (by kernel_rfl) ?_ _
  clear q1C q3C k0C k1C k2C
  have HC4 := Lib.hid (SC11)
  generalize wC11 = w4 at HC4 HTR4 ⊢
  have HCW : Hid (Chg B w w4) := Lib.hid ((Chg.ofBelow (B := B) HB1.out).trans HC4.out (fun b _ h => h))
  have HT4 : Hid (TSh w4 X tb tp mp T' A i S av (.slice sa S.length sc)) := Lib.hid (by rw [HU.out]; exact (HT.out.of HCW.out.size (fun b hb => HCW.out.block b (HT.out.lt b hb) (fun h => HBX.out b h hb))).grow U)
  have HV4 : Hid (Blk w4 (w.heap.size + 1) 57 [.int .i64 v1, .int .i64 v2, .string v3]) := Lib.hid (HV1.out.of (HC4.out.block _ HV1.out.lt hBv.out))
  go_upto_region 12 with (fail)
  refine RG.region_F (fun W => (∃ q3, Blk W tb 202 [av, tp, .int .i64 1, q3, .slice sa m sc, .pointer none, mp]) ∧ Blk W (w.heap.size + 1) 57 [.int .i64 v1, .int .i64 v2, .string v3]) 15 (by kernel_rfl) ?_
  have hB0 : Below w4.heap.size w4 ({ w4 with drawn := w4.drawn + 1 } : World) := ⟨rfl, rfl, rfl, Nat.le_refl _, fun _ _ => rfl⟩
  generalize ({ w4 with drawn := w4.drawn + 1 } : World) = w5 at hB0 ⊢
  have HB5 := Lib.hid hB0
  have HT5 : Hid (TSh w5 X tb tp mp T' A i S av (.slice sa S.length sc)) := Lib.hid (HT4.out.below hB0)
  have HV5 : Hid (Blk w5 (w.heap.size + 1) 57 [.int .i64 v1, .int .i64 v2, .string v3]) := Lib.hid (HV4.out.of (hB0.block _ HV4.out.lt))
  have hH5 : Hid (Blk w5 tb 202 [av, tp, .int .i64 1, .int .i64 (i : Nat), .slice sa m sc, .pointer none, mp]) := Lib.hid (by have := HT5.out.hd; rw [← EM.out] at this; exact this)
  have hS0 : (∃ q3, Blk w5 tb 202 [av, tp, .int .i64 1, q3, .slice sa m sc, .pointer none, mp]) ∧ Blk w5 (w.heap.size + 1) 57 [.int .i64 v1, .int .i64 v2, .string v3] := ⟨⟨_, hH5.out⟩, HV5.out⟩
  refine RG.takeF 0 (oi := ⟨some 54, _, _, _, _, _⟩) (v := ?_) rfl (by kernel_rfl) (by kernel_rfl) (by kernel_rfl) (by kernel_rfl) (fun _ _ _ h => h) (Or.inl ⟨by rfl, ?hyG0⟩) hS0 ?restG0
  case hyG0 => (intro W hW; obtain ⟨⟨q3, hW1⟩, hW2⟩ := hW; have q4 := hW1.cell 4 _ rfl; have p0 := hW2.cell 0 _ rfl; have p1 := hW2.cell 1 _ rfl; have p2 := hW2.cell 2 _ rfl; go_simp; try with_reducible rfl)
  try simp only [Act.put, List.setIfInBounds_toArray, List.set_cons_zero, List.set_cons_succ]
  refine RG.takeF 1 (oi := ⟨some 55, _, _, _, _, _⟩) (v := ?_) rfl (by kernel_rfl) (by kernel_rfl) (by kernel_rfl) (by kernel_rfl) (fun _ _ _ h => h) (Or.inl ⟨by rfl, ?hyG1⟩) hS0 ?restG1
  case hyG1 => (intro W hW; obtain ⟨⟨q3, hW1⟩, hW2⟩ := hW; have q4 := hW1.cell 4 _ rfl; have p0 := hW2.cell 0 _ rfl; have p1 := hW2.cell 1 _ rfl; have p2 := hW2.cell 2 _ rfl; go_simp; try with_reducible rfl)
  try simp only [Act.put, List.setIfInBounds_toArray, List.set_cons_zero, List.set_cons_succ]
  refine RG.takeF 2 (oi := ⟨some 56, _, _, _, _, _⟩) (v := ?_) rfl (by kernel_rfl) (by kernel_rfl) (by kernel_rfl) (by kernel_rfl) (fun _ _ _ h => h) (Or.inl ⟨by rfl, ?hyG2⟩) hS0 ?restG2
  case hyG2 => (intro W hW; obtain ⟨⟨q3, hW1⟩, hW2⟩ := hW; have q4 := hW1.cell 4 _ rfl; have p0 := hW2.cell 0 _ rfl; have p1 := hW2.cell 1 _ rfl; have p2 := hW2.cell 2 _ rfl; go_simp; try with_reducible rfl)
  try simp only [Act.put, List.setIfInBounds_toArray, List.set_cons_zero, List.set_cons_succ]
  refine RG.takeF 3 (oi := ⟨some 57, _, _, _, _, _⟩) (v := ?_) rfl (by kernel_rfl) (by kernel_rfl) (by kernel_rfl) (by kernel_rfl) (fun _ _ _ h => h) (Or.inl ⟨by rfl, ?hyG3⟩) hS0 ?restG3
  case hyG3 => (intro W hW; obtain ⟨⟨q3, hW1⟩, hW2⟩ := hW; have q4 := hW1.cell 4 _ rfl; have p0 := hW2.cell 0 _ rfl; have p1 := hW2.cell 1 _ rfl; have p2 := hW2.cell 2 _ rfl; go_simp; try with_reducible rfl)
  try simp only [Act.put, List.setIfInBounds_toArray, List.set_cons_zero, List.set_cons_succ]
  refine RG.takeF 4 (oi := ⟨some 58, _, _, _, _, _⟩) (v := ?_) rfl (by kernel_rfl) (by kernel_rfl) (by kernel_rfl) (by kernel_rfl) (fun _ _ _ h => h) (Or.inl ⟨by rfl, ?hyG4⟩) hS0 ?restG4
  case hyG4 => (intro W hW; obtain ⟨⟨q3, hW1⟩, hW2⟩ := hW; have q4 := hW1.cell 4 _ rfl; have p0 := hW2.cell 0 _ rfl; have p1 := hW2.cell 1 _ rfl; have p2 := hW2.cell 2 _ rfl; go_simp; try with_reducible rfl)
  try simp only [Act.put, List.setIfInBounds_toArray, List.set_cons_zero, List.set_cons_succ]
  refine RG.takeF 5 (oi := ⟨some 59, _, _, _, _, _⟩) (v := ?_) rfl (by kernel_rfl) (by kernel_rfl) (by kernel_rfl) (by kernel_rfl) (fun _ _ _ h => h) (Or.inl ⟨by rfl, ?hyG5⟩) hS0 ?restG5
  case hyG5 => (intro W hW; obtain ⟨⟨q3, hW1⟩, hW2⟩ := hW; have q4 := hW1.cell 4 _ rfl; have p0 := hW2.cell 0 _ rfl; have p1 := hW2.cell 1 _ rfl; have p2 := hW2.cell 2 _ rfl; go_simp; try with_reducible rfl)
  try simp only [Act.put, List.setIfInBounds_toArray, List.set_cons_zero, List.set_cons_succ]
  refine RG.takeF 6 (oi := ⟨some 60, _, _, _, _, _⟩) (v := ?_) rfl (by kernel_rfl) (by kernel_rfl) (by kernel_rfl) (by kernel_rfl) (fun _ _ _ h => h) (Or.inl ⟨by rfl, ?hyG6⟩) hS0 ?restG6
  case hyG6 => (intro W hW; obtain ⟨⟨q3, hW1⟩, hW2⟩ := hW; have q4 := hW1.cell 4 _ rfl; have p0 := hW2.cell 0 _ rfl; have p1 := hW2.cell 1 _ rfl; have p2 := hW2.cell 2 _ rfl; go_simp; try with_reducible rfl)
  try simp only [Act.put, List.setIfInBounds_toArray, List.set_cons_zero, List.set_cons_succ]
  refine RG.takeF 7 (oi := ⟨some 61, _, _, _, _, _⟩) (v := ?_) rfl (by kernel_rfl) (by kernel_rfl) (by kernel_rfl) (by kernel_rfl) (fun _ _ _ h => h) (Or.inl ⟨by rfl, ?hyG7⟩) hS0 ?restG7
  case hyG7 => (intro W hW; obtain ⟨⟨q3, hW1⟩, hW2⟩ := hW; have q4 := hW1.cell 4 _ rfl; have p0 := hW2.cell 0 _ rfl; have p1 := hW2.cell 1 _ rfl; have p2 := hW2.cell 2 _ rfl; go_simp; try with_reducible rfl)
  try simp only [Act.put, List.setIfInBounds_toArray, List.set_cons_zero, List.set_cons_succ]
  have hnb : Blk (w5.alloc (.cells #[.int .i64 v1, .int .i64 v2, .string v3] 57)) w5.heap.size 57 (Val.cells ⟨v1, v2, v3⟩) := Blk.new w5 _ 57
  have hS1 : (∃ q3, Blk (w5.alloc (.cells #[.int .i64 v1, .int .i64 v2, .string v3] 57)) tb 202 [av, tp, .int .i64 1, q3, .slice sa m sc, .pointer none, mp]) ∧ Blk (w5.alloc (.cells #[.int .i64 v1, .int .i64 v2, .string v3] 57)) (w.heap.size + 1) 57 [.int .i64 v1, .int .i64 v2, .string v3] := ⟨⟨_, hH5.out.alloc _⟩, HV5.out.alloc _⟩
  refine RG.oneF 8 (by kernel_rfl) (by decide) ?_
  refine RG.wpOp_plain rfl rfl fun K hK => ?_
  go_simp
  refine hK _ _ ⟨hS1, ?_⟩
  clear hK K
  try simp only [Act.put, List.setIfInBounds_toArray, List.set_cons_zero, List.set_cons_succ]
  have hrow : OwnV (w5.alloc (.cells #[.int .i64 v1, .int .i64 v2, .string v3] 57)) 0 (.slice sa m sc) S := by have := HT5.out.slo.below ((Below.refl _ _).alloc (Nat.le_refl _) (.cells #[.int .i64 v1, .int .i64 v2, .string v3] 57)); rw [← EM.out] at this; exact this
  obtain ⟨sv', w6, r, o, gr, hat'⟩ := run_append_val _ 0 _ ⟨v1, v2, v3⟩ hnb _ S hrow (by have := HN.out.2.2.2; omega) (Nat.zero_le _)
  obtain ⟨na, nc, hsf, _, _⟩ := OwnV.form o
  rw [List.length_append, List.length_singleton] at hsf
  subst hsf
  have hnt : ∀ b, b < w5.heap.size → (Value.slice sa m sc).ownBlock ≠ some b → w6.heap[b]? = w5.heap[b]? := fun b hb hn => (gr.block b (by simp; omega) (fun e => hn e.symm)).trans (Below.heap_alloc _ _ _ hb)
  have htn : (Value.slice sa m sc).ownBlock ≠ some tb := fun e => blk_ne_row HT5.out.hd HT5.out.slo (g := tb) (by rw [← EM.out]; exact e) (by decide) rfl
  have hvn : (Value.slice sa m sc).ownBlock ≠ some (w.heap.size + 1) := fun e => by have := HT.out.lt _ (HT.out.ownS _ (by rw [← EM.out]; exact e)); omega
  have hH6 := hH5.out.of (hnt tb hH5.out.lt htn)
  have hV6 := HV5.out.of (hnt _ HV5.out.lt hvn)
  refine RG.oneF 9 (by kernel_rfl) (by decide) ?_
  refine RG.wpOp_plain rfl rfl fun K hK => ?_
  refine RG.wp_append_run _ _ 55 55 rfl rfl rfl r ?_
  refine hK _ _ ⟨⟨⟨_, hH6⟩, hV6⟩, ?_⟩
  clear hK K
  try simp only [Act.put, List.setIfInBounds_toArray, List.set_cons_zero, List.set_cons_succ]
  refine RG.oneF 10 (by kernel_rfl) (by decide) ?_
  refine RG.wpOp_plain rfl rfl fun K hK => ?_
  go_simp
  refine hK _ _ ⟨⟨⟨_, hH6⟩, hV6⟩, ?_⟩
  clear hK K
  try simp only [Act.put, List.setIfInBounds_toArray, List.set_cons_zero, List.set_cons_succ]
  refine RG.oneF 11 (by kernel_rfl) (by decide) ?_
  refine RG.wpOp_plain rfl rfl fun K hK => ?_
  go_simp
  refine hK _ _ ⟨⟨⟨_, hH6⟩, hV6⟩, ?_⟩
  clear hK K
  try simp only [Act.put, List.setIfInBounds_toArray, List.set_cons_zero, List.set_cons_succ]
  have c3 := hH6.cell 3 _ rfl
  have z3 := hH6.frozen 3
  refine RG.oneF 12 (by kernel_rfl) (by decide) ?_
  refine RG.wpOp_wanted rfl (by rfl) fun K hK => ?_
  go_simp
  have ht1 : tb ≠ w.heap.size + 1 := by have := htl.out; omega
  refine hK _ _ ⟨⟨⟨_, hH6.setSame 3 _⟩, hV6.setOther (Ne.symm ht1) _⟩, ?_⟩
  clear hK K
  try simp only [Act.put, List.setIfInBounds_toArray, List.set_cons_zero, List.set_cons_succ]
  have hH7 := hH6.setSame 3 (.int .i64 (n : Nat))
  have hV7 := hV6.setOther (a := ⟨tb, 3, none⟩) (Ne.symm ht1) (.int .i64 (n : Nat))
  refine RG.oneF 13 (by kernel_rfl) (by decide) ?_
  refine RG.wpOp_plain rfl rfl fun K hK => ?_
  go_simp
  refine hK _ _ ⟨⟨⟨_, hH7⟩, hV7⟩, ?_⟩
  clear hK K
  try simp only [Act.put, List.setIfInBounds_toArray, List.set_cons_zero, List.set_cons_succ]
  refine RG.oneF 14 (by kernel_rfl) (by decide) ?_
  refine RG.wpOp_plain rfl rfl fun K hK => ?_
  go_simp
  refine hK _ _ ⟨⟨⟨_, hH7⟩, hV7⟩, ?_⟩
  clear hK K
  try simp only [Act.put, List.setIfInBounds_toArray, List.set_cons_zero, List.set_cons_succ]
  have c4 := hH7.cell 4 _ rfl
  have z4 := hH7.frozen 4
  refine RG.lastF (by kernel_rfl) (by kernel_rfl) ?_
  refine RG.wpOp_wanted rfl (by rfl) fun K hK => ?_
  go_simp
  refine hK _ _ ?_
  clear hK K
  try simp only [Act.put, List.setIfInBounds_toArray, List.set_cons_zero, List.set_cons_succ]
  clear c3 z3 c4 z4
  have HG := Lib.hid (And.intro o (And.intro gr (And.intro hat' (And.intro hnt hH7))))
  clear o gr hat' hnt hnb hrow hS1 hS0 r hH6 hV6 htn hvn
  go_wp2
  go_ret
  obtain ⟨o, gr, hat', hnt, hH7⟩ := HG.out
  have hsz : w4.heap.size ≤ w6.heap.size := Nat.le_trans HB5.out.size (by have := gr.size; simp at this; omega)
  have hnew : ∀ g, (Value.slice na (S.length + 1) nc).ownBlock = some g → X g ∨ w5.heap.size ≤ g := fun g hg => by
    rcases hat' with e | e
    · rw [hg] at e; exact .inl (HT.out.ownS g (by rw [← EM.out]; exact e.symm))
    · rw [hg] at e; have := Option.some.inj e; simp at this; exact .inr (by omega)
  have hslo : OwnV ((w6.setCell ⟨tb, 3, none⟩ (.int .i64 (n : Nat))).setCell ⟨tb, 4, none⟩ (.slice na (S.length + 1) nc)) 0 (.slice na (S.length + 1) nc) (S ++ [⟨v1, v2, v3⟩]) := o.of (fun g hg => by
    have hne : g ≠ tb := fun e => by
      rcases hat' with e2 | e2
      · rw [hg] at e2; exact blk_ne_row HT5.out.hd HT5.out.slo (g := g) (by rw [← EM.out]; exact e2.symm) (by decide) e.symm
      · rw [hg] at e2; have := Option.some.inj e2; have h2 := htl.out; have h3 := HCW.out.size; have h4 := HB5.out.size; simp at this; omega
    rw [Below.heap_setCell _ _ _ _ hne, Below.heap_setCell _ _ _ _ hne])
  have harr : OwnV ((w6.setCell ⟨tb, 3, none⟩ (.int .i64 (n : Nat))).setCell ⟨tb, 4, none⟩ (.slice na (S.length + 1) nc)) 0 av A := HT5.out.arr.of (fun g hg => by
    have hne : g ≠ tb := fun e => blk_ne_row HT5.out.hd HT5.out.arr hg (by decide) e.symm
    rw [Below.heap_setCell _ _ _ _ hne, Below.heap_setCell _ _ _ _ hne]
    exact hnt g (HT5.out.arr.lt g hg).2 (fun e => HT5.out.ne g hg (by rw [← EM.out]; exact e)))
  have hwf := HTR4.out.wf
  have hlt4 := HTR4.out.lt
  refine ⟨rfl, fun b => X b ∨ (w4.heap.size ≤ b ∧ b < w6.heap.size), B2, .slice na (S.length + 1) nc, ⟨hH7.setSame 4 _, harr, hslo, fun g hg => ?_, HN.out.1, ?_, ?_, fun k hk => ?_, ?_, .inl HT.out.ownT, fun g hg => .inl (HT.out.ownA g hg), fun g hg => ?_, fun b hb => ?_⟩, ?_, fun b hb => ?_, fun b hb => ?_, fun b hb => ?_, ?_⟩
  · intro e
    rcases hat' with e2 | e2
    · exact HT.out.ne g hg (by rw [← EM.out, ← e2]; exact e)
    · rw [e] at e2; have := Option.some.inj e2; have h1 := (HT.out.arr.lt g hg).2; have h3 := HCW.out.size; have h4 := HB5.out.size; simp at this; omega
  · rw [HN.out.2.1, List.length_append, List.length_append, HT.out.len]; rfl
  · rw [HN.out.2.1]
    exact List.nodup_append.2 ⟨HT.out.nd, by simp, fun a ha b hb e => by simp at hb; subst hb; exact HN.out.2.2.1 (e ▸ ha)⟩
  · rw [HN.out.2.1] at hk
    rcases List.mem_append.1 hk with hk | hk
    · exact HT.out.sz k hk
    · simp at hk; subst hk; exact HKZ.out
  · have h1 := hwf.keys n HN.out.1
    have h2 := hwf.deep64
    have h3 : ((ksOf T' n).length : Int) ≤ D := h1
    omega
  · rcases hnew g hg with h1 | h1
    · exact .inl h1
    · have h2 := (o.lt g hg).2; have h4 := HB5.out.size; exact .inr ⟨by omega, h2⟩
  · rcases hb with hb | hb
    · have h1 := HT.out.lt b hb; have h3 := HCW.out.size; simp; omega
    · simpa using hb.2
  · exact HTR4.out.of (by simp; omega) (fun b hb => by
      have hb4 := hlt4 b hb
      have hbt : b ≠ tb := fun e => by
        rcases HB4.out b hb with h1 | h1
        · exact HBX.out b h1 (e ▸ HT.out.ownT)
        · have h2 := htl.out; have h3 := HB1.out.size; omega
      rw [Below.heap_setCell _ _ _ _ hbt, Below.heap_setCell _ _ _ _ hbt, hnt b (Nat.lt_of_lt_of_le hb4 HB5.out.size) (fun e => ?_)]
      · exact HB5.out.block b hb4
      · have h1 := HT.out.ownS b (by rw [← EM.out]; exact e)
        rcases HB4.out b hb with h2 | h2
        · exact HBX.out b h2 h1
        · have h3 := HT.out.lt b h1; have h4 := HB1.out.size; omega)
  · rcases hb with hb | hb
    · exact .inl hb
    · have h3 := HCW.out.size; exact .inr (by omega)
  · exact (HB4.out b hb).imp id (fun h => Nat.le_trans HB1.out.size h)
  · intro hx
    have hb4 := hlt4 b hb
    rcases hx with hx | hx
    · rcases HB4.out b hb with h2 | h2
      · exact HBX.out b h2 hx
      · have h3 := HT.out.lt b hx; have h4 := HB1.out.size; omega
    · omega
  · have c1 : Chg (fun b => X b ∨ B b) w w5 := (HCW.out.mono (C := fun b => X b ∨ B b) (fun b _ h => .inr h)).trans (Chg.ofBelow (B := fun _ => False) HB5.out) (fun b _ h => h.elim)
    have c2 : Chg (fun b => X b ∨ B b) w w6 := (c1.alloc _).grown gr (fun g hg _ => .inl (HT.out.ownS g (by rw [← EM.out]; exact hg)))
    exact (c2.setCell (a := ⟨tb, 3, none⟩) (fun _ => .inl HT.out.ownT) _).setCell (a := ⟨tb, 4, none⟩) (fun _ => .inl HT.out.ownT) _
end
end Go.Proofs.Ytmjfmfelbmbniaa

/- Layer 14: other, over a table whose slots become a dictionary. -/
namespace Go.Proofs.Ytmjfmfelbmbniaa
open Go.RowKit Go.Maps HK ShM
set_option linter.unusedVariables false
set_option linter.unusedSimpArgs false
open RH
section
variable {w w' : World} {X Y B : Nat → Prop} {tb i M N d : Nat} {tp mp av sv : Value} {T : List Sh} {A S : List Val} {R : Pairs} {s : Tab} {D F : Int}
set_option maxHeartbeats 8000000 in
set_option maxRecDepth 20000 in
theorem tother_key (h : TSh w X tb tp mp T A i S av sv) (ht : Tr w B tp D F T) (hB : ∀ b, B b → ¬ X b) (k1 k2 : Int) (k3 : ByteArray) (v1 v2 : Int) (v3 : ByteArray) (hk : k3.size ≤ maxLen) (hsl : slotX T i ⟨k1, k2, k3⟩ = none) (hv : v1 ≠ 0) (hown : ∀ v ∈ S, v.own = v) (hf : setF (strPairs (ksOf T i) S) ⟨k1, k2, k3⟩ ⟨v1, v2, v3⟩ = true) (hk1 : (k1 == 3) = false) : Calls Try.prog 121 #[.pointer (some ⟨tb, 0, none⟩), Val.v ⟨k1, k2, k3⟩, Val.v ⟨v1, v2, v3⟩] w fun e w' => e = .returned (.int .i64 1) ∧ ∃ X' Y' d B', THa w' X' tb tp mp A (setL (strPairs (ksOf T i) S) ⟨k1, k2, k3⟩ ⟨v1, v2, v3⟩) 129 av d Y' ∧ Tr w' B' tp D F T ∧ (∀ b, X' b → X b ∨ w.heap.size ≤ b) ∧ (∀ b, B' b → B b ∨ w.heap.size ≤ b) ∧ (∀ b, B' b → ¬ X' b) ∧ Chg (fun b => X b ∨ B b) w w' := by
  have HT := Lib.hid h
  have HTR := Lib.hid ht
  have hs0 : ∀ W, Below w.heap.size w W → Calls Try.prog 123 #[.pointer (some ⟨tb, 0, none⟩), Val.v ⟨k1, k2, k3⟩] W fun e w' => e = .returned (.tuple #[.int .i64 0, .bool false]) ∧ Below W.heap.size W w' := fun W hW => by
    have h1 := tslot_calls (h.below hW) (ht.below hW) ⟨k1, k2, k3⟩ hk
    rw [hsl] at h1
    exact h1
  have HSL := Lib.hid hs0
  have HB0 : Hid (Below w.heap.size w ((w.alloc (.cells #[.int .i64 k1, .int .i64 k2, .string k3] 57)).alloc (.cells #[.int .i64 v1, .int .i64 v2, .string v3] 57))) := Lib.hid (by (repeat (first | exact Below.refl _ _ | (refine Below.alloc ?_ (by simp <;> omega) _))))
  have HK0 : Hid (Blk ((w.alloc (.cells #[.int .i64 k1, .int .i64 k2, .string k3] 57)).alloc (.cells #[.int .i64 v1, .int .i64 v2, .string v3] 57)) w.heap.size 57 [.int .i64 k1, .int .i64 k2, .string k3]) := Lib.hid ((Blk.new w [.int .i64 k1, .int .i64 k2, .string k3] 57).alloc _)
  have HV0 : Hid (Blk ((w.alloc (.cells #[.int .i64 k1, .int .i64 k2, .string k3] 57)).alloc (.cells #[.int .i64 v1, .int .i64 v2, .string v3] 57)) (w.heap.size + 1) 57 [.int .i64 v1, .int .i64 v2, .string v3]) := Lib.hid (by simpa using Blk.new (w.alloc (.cells #[.int .i64 k1, .int .i64 k2, .string k3] 57)) [.int .i64 v1, .int .i64 v2, .string v3] 57)
  have c2 := (h.below HB0.out).hd.cell 2 _ rfl
  have htl := Lib.hid (h.lt tb h.ownT)
  have HBX := Lib.hid hB
  have hvf : (v1 == 0) = false := by simpa using hv
  have HOW := Lib.hid hown
  have HSF := Lib.hid hf
  have HKZ := Lib.hid hk
  have hBt : Hid (¬ B tb) := Lib.hid (fun hb => hB tb hb h.ownT)
  have hBk : Hid (¬ B w.heap.size) := Lib.hid (fun hb => by have := ht.lt _ hb; omega)
  have hBv : Hid (¬ B (w.heap.size + 1)) := Lib.hid (fun hb => by have := ht.lt _ hb; omega)
  clear hs0 hsl hk h ht hB hv hown hf
  go_enter Try.func121, Try.ntmps121
  go_upto_region 14 with (go_at_call 123; go_loud ((with_reducible refine (HSL.out _ HB0.out).mono ?_); rintro e w1 ⟨rfl, hb⟩; have HB1 := Lib.hid (HB0.out.trans (hb.mono HB0.out.size)); have HK1 := Lib.hid (HK0.out.of (hb.block _ HK0.out.lt)); have HV1 := Lib.hid (HV0.out.of (hb.block _ HV0.out.lt)); clear hb; have k0 := HK1.out.cell 0 _ rfl; have v0 := HV1.out.cell 0 _ rfl))
  clear c2 k0 v0 hvf
  have hu := Try.underlying57
  have HBX2 : Hid (∀ b, B b → B b ∨ w.heap.size ≤ b) := Lib.hid (fun b hb => .inl hb)
  have HCX : Hid (Chg B w w1) := Lib.hid (Chg.ofBelow HB1.out)
  have HTX := Lib.hid (HT.out.below HB1.out)
  have HTRX := Lib.hid (HTR.out.below HB1.out)
  have HKX := Lib.hid HK1.out
  have HVX := Lib.hid HV1.out
  obtain ⟨B2, hB2⟩ : ∃ B2, B2 = B := ⟨_, rfl⟩
  rw [← hB2] at HTRX
  have HBX2 : Hid (∀ b, B2 b → B b ∨ w.heap.size ≤ b) := Lib.hid (fun b hb => .inl (hB2 ▸ hb))
  clear hB2
  have HBQ : Hid (∀ b, B2 b → ¬ X b) := Lib.hid (fun b hb hx => Or.elim (c := False) (HBX2.out b hb) (fun h => HBX.out b h hx) (fun h => by have h1 := HT.out.lt b hx; omega))
  have HCALL := Lib.hid (thash_calls HTX.out HTRX.out HBQ.out HOW.out)
  go_upto_region 15 with (go_at_call 150; go_loud ((with_reducible refine (HCALL.out).mono ?_); rintro e wh ⟨rfl, d, Y, hd1, hd2, hd3⟩; have HH := Lib.hid hd1; have HHY := Lib.hid hd2; have HHC := Lib.hid hd3; clear hd1 hd2 hd3))
  have hs1 := Lib.hid HCX.out.size
  have hs2 := Lib.hid HHC.out.size
  have hYt : Hid (¬ Y tb) := Lib.hid (fun hb => (HH.out.ownY tb hb).2.1 rfl)
  have hYk : Hid (¬ Y w.heap.size) := Lib.hid (fun hb => by have h1 := HHY.out _ hb; have h2 := HKX.out.lt; omega)
  have hYv : Hid (¬ Y (w.heap.size + 1)) := Lib.hid (fun hb => by have h1 := HHY.out _ hb; have h2 := HVX.out.lt; omega)
  have htk : Hid (w.heap.size ≠ tb ∧ w.heap.size + 1 ≠ tb) := Lib.hid (by have := htl.out; omega)
  have HKH : Hid (Blk wh w.heap.size 57 [.int .i64 k1, .int .i64 k2, .string k3]) := Lib.hid (HKX.out.of (HHC.out.block _ HKX.out.lt htk.out.1))
  have HVH : Hid (Blk wh (w.heap.size + 1) 57 [.int .i64 v1, .int .i64 v2, .string v3]) := Lib.hid (HVX.out.of (HHC.out.block _ HVX.out.lt htk.out.2))
  have HST := Lib.hid (fun (W : World) (h : DAt W Y d (strPairs (ksOf T i) S) 128) => dset_calls h (by omega) ⟨k1, k2, k3⟩ ⟨v1, v2, v3⟩ HKZ.out)
  rw [HSF.out] at HST
  have BLZ : Below wh.heap.size wh ({ wh with drawn := wh.drawn + 1 } : World) := ⟨rfl, rfl, rfl, Nat.le_refl _, fun _ _ => rfl⟩
  refine wp_region_held (S := Chg (Y) wh) (by kernel_rfl) ?_
  have hSZ : Chg (Y) wh ({ wh with drawn := wh.drawn + 1 } : World) := Chg.ofBelow BLZ
  generalize ({ wh with drawn := wh.drawn + 1 } : World) = wZ at hSZ BLZ ⊢
  have q5Z : ∀ W, Chg (Y) wh W → W.cell? ⟨tb, 5, none⟩ = some (.pointer (some ⟨d, 0, none⟩)) := fun W hW => (HH.out.hd.of (hW.block tb HH.out.hd.lt hYt.out)).cell 5 _ rfl
  have k0Z : ∀ W, Chg (Y) wh W → W.cell? ⟨w.heap.size, 0, none⟩ = some (.int .i64 k1) := fun W hW => (HKH.out.of (hW.block _ HKH.out.lt hYk.out)).cell 0 _ rfl
  have k1Z : ∀ W, Chg (Y) wh W → W.cell? ⟨w.heap.size, 1, none⟩ = some (.int .i64 k2) := fun W hW => (HKH.out.of (hW.block _ HKH.out.lt hYk.out)).cell 1 _ rfl
  have k2Z : ∀ W, Chg (Y) wh W → W.cell? ⟨w.heap.size, 2, none⟩ = some (.string k3) := fun W hW => (HKH.out.of (hW.block _ HKH.out.lt hYk.out)).cell 2 _ rfl
  have v0Z : ∀ W, Chg (Y) wh W → W.cell? ⟨w.heap.size + 1, 0, none⟩ = some (.int .i64 v1) := fun W hW => (HVH.out.of (hW.block _ HVH.out.lt hYv.out)).cell 0 _ rfl
  have v1Z : ∀ W, Chg (Y) wh W → W.cell? ⟨w.heap.size + 1, 1, none⟩ = some (.int .i64 v2) := fun W hW => (HVH.out.of (hW.block _ HVH.out.lt hYv.out)).cell 1 _ rfl
  have v2Z : ∀ W, Chg (Y) wh W → W.cell? ⟨w.heap.size + 1, 2, none⟩ = some (.string v3) := fun W hW => (HVH.out.of (hW.block _ HVH.out.lt hYv.out)).cell 2 _ rfl
  refine takeH 0 (oi := ⟨some 71, _, _, _, _, _⟩) (v := ?_) rfl (by kernel_rfl) (by kernel_rfl) (by kernel_rfl) (fun _ _ _ h => h) (Or.inl ⟨by rfl, ?hyZ1⟩) hSZ ?restZ1
  case hyZ1 => (intro W hW; (try dsimp only at hW); go_simp; try with_reducible rfl)
  try simp only [Act.put, List.setIfInBounds_toArray, List.set_cons_zero, List.set_cons_succ]
  refine takeH 1 (oi := ⟨some 72, _, _, _, _, _⟩) (v := ?_) rfl (by kernel_rfl) (by kernel_rfl) (by kernel_rfl) (fun _ _ _ h => h) (Or.inl ⟨by rfl, ?hyZ2⟩) hSZ ?restZ2
  case hyZ2 => (intro W hW; (try dsimp only at hW); go_simp; try with_reducible rfl)
  try simp only [Act.put, List.setIfInBounds_toArray, List.set_cons_zero, List.set_cons_succ]
  refine takeH 2 (oi := ⟨some 73, _, _, _, _, _⟩) (v := ?_) rfl (by kernel_rfl) (by kernel_rfl) (by kernel_rfl) (fun _ _ _ h => h) (Or.inl ⟨by rfl, ?hyZ3⟩) hSZ ?restZ3
  case hyZ3 => (intro W hW; (try dsimp only at hW); go_simp; try with_reducible rfl)
  try simp only [Act.put, List.setIfInBounds_toArray, List.set_cons_zero, List.set_cons_succ]
  refine takeH 3 (oi := ⟨some 74, _, _, _, _, _⟩) (v := ?_) rfl (by kernel_rfl) (by kernel_rfl) (by kernel_rfl) (fun _ _ _ h => h) (Or.inl ⟨by rfl, ?hyZ4⟩) hSZ ?restZ4
  case hyZ4 => (intro W hW; (try dsimp only at hW); go_simp; try with_reducible rfl)
  try simp only [Act.put, List.setIfInBounds_toArray, List.set_cons_zero, List.set_cons_succ]
  refine takeH 4 (oi := ⟨some 75, _, _, _, _, _⟩) (v := ?_) rfl (by kernel_rfl) (by kernel_rfl) (by kernel_rfl) (fun _ _ _ h => h) (Or.inl ⟨by rfl, ?hyZ5⟩) hSZ ?restZ5
  case hyZ5 => (intro W hW; (try dsimp only at hW); go_simp; try with_reducible rfl)
  try simp only [Act.put, List.setIfInBounds_toArray, List.set_cons_zero, List.set_cons_succ]
  refine takeH 5 (oi := ⟨some 76, _, _, _, _, _⟩) (v := ?_) rfl (by kernel_rfl) (by kernel_rfl) (by kernel_rfl) (fun _ _ _ h => h) (Or.inl ⟨by rfl, ?hyZ6⟩) hSZ ?restZ6
  case hyZ6 => (intro W hW; (try dsimp only at hW); go_simp; try with_reducible rfl)
  try simp only [Act.put, List.setIfInBounds_toArray, List.set_cons_zero, List.set_cons_succ]
  refine one (i := 6) (by kernel_rfl) ?_
  refine wpOp_wanted rfl (by rfl) fun K hK => ?_
  go_simp
  with_reducible refine (HST.out _ (HH.out.dict.below BLZ)).mono ?_
  rintro e wZ7 ⟨rfl, Y2, hd, hy, hc⟩
  have SZ7 : Chg (Y) wh wZ7 := (Chg.ofBelow BLZ).trans hc (fun b _ h => h)
  have HD4 := Lib.hid hd
  have HY4 : Hid (∀ b, Y2 b → Y b ∨ wh.heap.size ≤ b) := Lib.hid (fun b hb => (hy b hb).imp id (fun h => Nat.le_trans BLZ.size h))
  clear hd hy hc
  refine hK _ _ ⟨SZ7, ?_⟩
  clear hK K
  try simp only [Act.put, List.setIfInBounds_toArray, List.set_cons_zero, List.set_cons_succ]
  refine takeH 7 (oi := ⟨some 70, _, _, _, _, _⟩) (v := ?_) rfl (by kernel_rfl) (by kernel_rfl) (by kernel_rfl) (fun _ _ _ h => h) (Or.inl ⟨by rfl, ?hyZ8⟩) SZ7 ?restZ8
  case hyZ8 => (intro W hW; (try dsimp only at hW); go_simp; try with_reducible rfl)
  try simp only [Act.put, List.setIfInBounds_toArray, List.set_cons_zero, List.set_cons_succ]
  refine takeH 8 (oi := ⟨some 78, _, _, _, _, _⟩) (v := ?_) rfl (by kernel_rfl) (by kernel_rfl) (by kernel_rfl) (fun _ _ _ h => h) (Or.inl ⟨by rfl, ?hyZ9⟩) SZ7 ?restZ9
  case hyZ9 => (intro W hW; (try dsimp only at hW); go_simp; try with_reducible rfl)
  try simp only [Act.put, List.setIfInBounds_toArray, List.set_cons_zero, List.set_cons_succ]
  refine takeH 9 (oi := ⟨some 79, _, _, _, _, _⟩) (v := ?_) rfl (by kernel_rfl) (by kernel_rfl) (by kernel_rfl) (fun _ _ _ h => h) (Or.inl ⟨by rfl, ?hyZ10⟩) SZ7 ?restZ10
  case hyZ10 => (intro W hW; (try dsimp only at hW); go_simp; try with_reducible rfl)
  try simp only [Act.put, List.setIfInBounds_toArray, List.set_cons_zero, List.set_cons_succ]
  refine takeH 10 (oi := ⟨some 11, _, _, _, _, _⟩) (v := ?_) rfl (by kernel_rfl) (by kernel_rfl) (by kernel_rfl) (fun _ _ _ h => h) (Or.inl ⟨by rfl, ?hyZ11⟩) SZ7 ?restZ11
  case hyZ11 => (intro W hW; (try dsimp only at hW); go_simp; try with_reducible rfl)
  try simp only [Act.put, List.setIfInBounds_toArray, List.set_cons_zero, List.set_cons_succ]
  refine takeH 11 (oi := ⟨some 12, _, _, _, _, _⟩) (v := ?_) rfl (by kernel_rfl) (by kernel_rfl) (by kernel_rfl) (fun _ _ _ h => h) (Or.inl ⟨by rfl, ?hyZ12⟩) SZ7 ?restZ12
  case hyZ12 => (intro W hW; (try dsimp only at hW); go_simp; try with_reducible rfl)
  try simp only [Act.put, List.setIfInBounds_toArray, List.set_cons_zero, List.set_cons_succ]
  refine wpAnyH_done (by kernel_rfl) ?_ _
  clear q5Z k0Z k1Z k2Z v0Z v1Z v2Z
  have HC := Lib.hid (SZ7)
  generalize wZ7 = wz at HC HD4 HY4 ⊢
  go_wp2
  go_ret
  have hz := HH.out.setRest HC.out HD4.out HY4.out
  have hnewY : ∀ b, Y2 b → w1.heap.size ≤ b := fun b hb => (HY4.out b hb).elim (HHY.out b) (fun h => by have := hs2.out; omega)
  refine ⟨rfl, _, Y2, d, B2, hz, ?_, fun b hb => ?_, fun b hb => HBX2.out b hb, fun b hb hx => ?_, ?_⟩
  · refine HTRX.out.of (Nat.le_trans hs2.out HC.out.size) (fun b hb => ?_)
    have hl := HTRX.out.lt b hb
    have hbt : b ≠ tb := fun e => Or.elim (c := False) (HBX2.out b hb) (fun h => HBX.out b h (e ▸ HT.out.ownT)) (fun h => by have := htl.out; omega)
    exact (HC.out.block b (Nat.lt_of_lt_of_le hl hs2.out) (fun hy => by have := HHY.out b hy; omega)).trans (HHC.out.block b hl hbt)
  · rcases hb with (hb | hb) | hb
    · exact .inl hb
    · have := HHY.out b hb; have h2 := hs1.out; exact .inr (by omega)
    · have := hnewY b hb; have h2 := hs1.out; exact .inr (by omega)
  · have hl := HTRX.out.lt b hb
    rcases hx with (hx | hx) | hx
    · exact Or.elim (c := False) (HBX2.out b hb) (fun h => HBX.out b h hx) (fun h => by have h1 := HT.out.lt b hx; omega)
    · have := HHY.out b hx; omega
    · have := hnewY b hx; omega
  · have c1 : Chg (fun b => X b ∨ B b) w w1 := HCX.out.mono (C := fun b => X b ∨ B b) (fun b _ h => .inr h)
    have c2 : Chg (fun b => X b ∨ B b) w wh := c1.trans HHC.out (fun b _ h => .inl (by subst h; exact HT.out.ownT))
    exact c2.trans HC.out (fun b hb h => by have h1 := HHY.out b h; have h2 := hs1.out; omega)
set_option maxHeartbeats 8000000 in
set_option maxRecDepth 20000 in
theorem tother_full (h : TSh w X tb tp mp T A i S av sv) (ht : Tr w B tp D F T) (hB : ∀ b, B b → ¬ X b) (k1 k2 : Int) (k3 : ByteArray) (v1 v2 : Int) (v3 : ByteArray) (hk : k3.size ≤ maxLen) (hsl : slotX T i ⟨k1, k2, k3⟩ = none) (hv : v1 ≠ 0) (hown : ∀ v ∈ S, v.own = v) (hf : setF (strPairs (ksOf T i) S) ⟨k1, k2, k3⟩ ⟨v1, v2, v3⟩ = true) (hk1 : k1 = 3) (hok : (addM D F T (i : Nat) k3).ok = false) (hTs : (addM D F T (i : Nat) k3).T = T) : Calls Try.prog 121 #[.pointer (some ⟨tb, 0, none⟩), Val.v ⟨k1, k2, k3⟩, Val.v ⟨v1, v2, v3⟩] w fun e w' => e = .returned (.int .i64 1) ∧ ∃ X' Y' d B', THa w' X' tb tp mp A (setL (strPairs (ksOf T i) S) ⟨k1, k2, k3⟩ ⟨v1, v2, v3⟩) 129 av d Y' ∧ Tr w' B' tp D F T ∧ (∀ b, X' b → X b ∨ w.heap.size ≤ b) ∧ (∀ b, B' b → B b ∨ w.heap.size ≤ b) ∧ (∀ b, B' b → ¬ X' b) ∧ Chg (fun b => X b ∨ B b) w w' := by
  have HT := Lib.hid h
  have HTR := Lib.hid ht
  have hs0 : ∀ W, Below w.heap.size w W → Calls Try.prog 123 #[.pointer (some ⟨tb, 0, none⟩), Val.v ⟨k1, k2, k3⟩] W fun e w' => e = .returned (.tuple #[.int .i64 0, .bool false]) ∧ Below W.heap.size W w' := fun W hW => by
    have h1 := tslot_calls (h.below hW) (ht.below hW) ⟨k1, k2, k3⟩ hk
    rw [hsl] at h1
    exact h1
  have HSL := Lib.hid hs0
  have HB0 : Hid (Below w.heap.size w ((w.alloc (.cells #[.int .i64 k1, .int .i64 k2, .string k3] 57)).alloc (.cells #[.int .i64 v1, .int .i64 v2, .string v3] 57))) := Lib.hid (by (repeat (first | exact Below.refl _ _ | (refine Below.alloc ?_ (by simp <;> omega) _))))
  have HK0 : Hid (Blk ((w.alloc (.cells #[.int .i64 k1, .int .i64 k2, .string k3] 57)).alloc (.cells #[.int .i64 v1, .int .i64 v2, .string v3] 57)) w.heap.size 57 [.int .i64 k1, .int .i64 k2, .string k3]) := Lib.hid ((Blk.new w [.int .i64 k1, .int .i64 k2, .string k3] 57).alloc _)
  have HV0 : Hid (Blk ((w.alloc (.cells #[.int .i64 k1, .int .i64 k2, .string k3] 57)).alloc (.cells #[.int .i64 v1, .int .i64 v2, .string v3] 57)) (w.heap.size + 1) 57 [.int .i64 v1, .int .i64 v2, .string v3]) := Lib.hid (by simpa using Blk.new (w.alloc (.cells #[.int .i64 k1, .int .i64 k2, .string k3] 57)) [.int .i64 v1, .int .i64 v2, .string v3] 57)
  have c2 := (h.below HB0.out).hd.cell 2 _ rfl
  have htl := Lib.hid (h.lt tb h.ownT)
  have HBX := Lib.hid hB
  have hk0 : (k1 == 3) = true := by rw [hk1]; rfl
  subst hk1
  obtain ⟨r, hr⟩ : ∃ r, (addM D F T (i : Nat) k3).r = r := ⟨_, rfl⟩
  have ha0 : ∀ W, Below w.heap.size w W → Calls Try.prog 28 #[tp, .int .i64 (i : Nat), .string k3] W fun e w' => e = .returned (.tuple #[.int .i64 r, .bool false]) ∧ TrGrown W w' B tp D F T := fun W hW => by
    have h1 := (ht.below hW).add (i : Nat) k3 hk
    rw [hr, hok, hTs] at h1
    exact h1
  have HAD := Lib.hid ha0
  have hvf : (v1 == 0) = false := by simpa using hv
  have HOW := Lib.hid hown
  have HSF := Lib.hid hf
  have HKZ := Lib.hid hk
  have hBt : Hid (¬ B tb) := Lib.hid (fun hb => hB tb hb h.ownT)
  have hBk : Hid (¬ B w.heap.size) := Lib.hid (fun hb => by have := ht.lt _ hb; omega)
  have hBv : Hid (¬ B (w.heap.size + 1)) := Lib.hid (fun hb => by have := ht.lt _ hb; omega)
  clear hs0 hsl hk h ht hB ha0 hv hk0 hown hf hok hTs hr
  go_enter Try.func121, Try.ntmps121
  go_upto_region 10 with (go_at_call 123; go_loud ((with_reducible refine (HSL.out _ HB0.out).mono ?_); rintro e w1 ⟨rfl, hb⟩; have HB1 := Lib.hid (HB0.out.trans (hb.mono HB0.out.size)); have HK1 := Lib.hid (HK0.out.of (hb.block _ HK0.out.lt)); have HV1 := Lib.hid (HV0.out.of (hb.block _ HV0.out.lt)); clear hb; have k0 := HK1.out.cell 0 _ rfl; have v0 := HV1.out.cell 0 _ rfl))
  clear c2 k0 v0 hvf
  have hu := Try.underlying57
  have HT1 := Lib.hid (HT.out.below HB1.out)
  have BLC : Below w1.heap.size w1 ({ w1 with drawn := w1.drawn + 1 } : World) := ⟨rfl, rfl, rfl, Nat.le_refl _, fun _ _ => rfl⟩
  refine wp_region_held (S := Chg (B) w1) (by kernel_rfl) ?_
  have hSC : Chg (B) w1 ({ w1 with drawn := w1.drawn + 1 } : World) := Chg.ofBelow BLC
  generalize ({ w1 with drawn := w1.drawn + 1 } : World) = wC at hSC BLC ⊢
  have q1C : ∀ W, Chg (B) w1 W → W.cell? ⟨tb, 1, none⟩ = some (tp) := fun W hW => (HT1.out.hd.of (hW.block tb HT1.out.hd.lt hBt.out)).cell 1 _ rfl
  have q3C : ∀ W, Chg (B) w1 W → W.cell? ⟨tb, 3, none⟩ = some (.int .i64 (i : Nat)) := fun W hW => (HT1.out.hd.of (hW.block tb HT1.out.hd.lt hBt.out)).cell 3 _ rfl
  have k0C : ∀ W, Chg (B) w1 W → W.cell? ⟨w.heap.size, 0, none⟩ = some (.int .i64 3) := fun W hW => (HK1.out.of (hW.block _ HK1.out.lt hBk.out)).cell 0 _ rfl
  have k1C : ∀ W, Chg (B) w1 W → W.cell? ⟨w.heap.size, 1, none⟩ = some (.int .i64 k2) := fun W hW => (HK1.out.of (hW.block _ HK1.out.lt hBk.out)).cell 1 _ rfl
  have k2C : ∀ W, Chg (B) w1 W → W.cell? ⟨w.heap.size, 2, none⟩ = some (.string k3) := fun W hW => (HK1.out.of (hW.block _ HK1.out.lt hBk.out)).cell 2 _ rfl
  refine takeH 0 (oi := ⟨some 40, _, _, _, _, _⟩) (v := ?_) rfl (by kernel_rfl) (by kernel_rfl) (by kernel_rfl) (fun _ _ _ h => h) (Or.inl ⟨by rfl, ?hyC13⟩) hSC ?restC13
  case hyC13 => (intro W hW; (try dsimp only at hW); go_simp; try with_reducible rfl)
  try simp only [Act.put, List.setIfInBounds_toArray, List.set_cons_zero, List.set_cons_succ]
  refine takeH 1 (oi := ⟨some 41, _, _, _, _, _⟩) (v := ?_) rfl (by kernel_rfl) (by kernel_rfl) (by kernel_rfl) (fun _ _ _ h => h) (Or.inl ⟨by rfl, ?hyC14⟩) hSC ?restC14
  case hyC14 => (intro W hW; (try dsimp only at hW); go_simp; try with_reducible rfl)
  try simp only [Act.put, List.setIfInBounds_toArray, List.set_cons_zero, List.set_cons_succ]
  refine takeH 2 (oi := ⟨some 42, _, _, _, _, _⟩) (v := ?_) rfl (by kernel_rfl) (by kernel_rfl) (by kernel_rfl) (fun _ _ _ h => h) (Or.inl ⟨by rfl, ?hyC15⟩) hSC ?restC15
  case hyC15 => (intro W hW; (try dsimp only at hW); go_simp; try with_reducible rfl)
  try simp only [Act.put, List.setIfInBounds_toArray, List.set_cons_zero, List.set_cons_succ]
  refine takeH 3 (oi := ⟨some 43, _, _, _, _, _⟩) (v := ?_) rfl (by kernel_rfl) (by kernel_rfl) (by kernel_rfl) (fun _ _ _ h => h) (Or.inl ⟨by rfl, ?hyC16⟩) hSC ?restC16
  case hyC16 => (intro W hW; (try dsimp only at hW); go_simp; try with_reducible rfl)
  try simp only [Act.put, List.setIfInBounds_toArray, List.set_cons_zero, List.set_cons_succ]
  refine takeH 4 (oi := ⟨some 44, _, _, _, _, _⟩) (v := ?_) rfl (by kernel_rfl) (by kernel_rfl) (by kernel_rfl) (fun _ _ _ h => h) (Or.inl ⟨by rfl, ?hyC17⟩) hSC ?restC17
  case hyC17 => (intro W hW; (try dsimp only at hW); go_simp; try with_reducible rfl)
  try simp only [Act.put, List.setIfInBounds_toArray, List.set_cons_zero, List.set_cons_succ]
  refine takeH 5 (oi := ⟨some 45, _, _, _, _, _⟩) (v := ?_) rfl (by kernel_rfl) (by kernel_rfl) (by kernel_rfl) (fun _ _ _ h => h) (Or.inl ⟨by rfl, ?hyC18⟩) hSC ?restC18
  case hyC18 => (intro W hW; (try dsimp only at hW); go_simp; try with_reducible rfl)
  try simp only [Act.put, List.setIfInBounds_toArray, List.set_cons_zero, List.set_cons_succ]
  refine takeH 6 (oi := ⟨some 46, _, _, _, _, _⟩) (v := ?_) rfl (by kernel_rfl) (by kernel_rfl) (by kernel_rfl) (fun _ _ _ h => h) (Or.inl ⟨by rfl, ?hyC19⟩) hSC ?restC19
  case hyC19 => (intro W hW; (try dsimp only at hW); go_simp; try with_reducible rfl)
  try simp only [Act.put, List.setIfInBounds_toArray, List.set_cons_zero, List.set_cons_succ]
  refine takeH 7 (oi := ⟨some 47, _, _, _, _, _⟩) (v := ?_) rfl (by kernel_rfl) (by kernel_rfl) (by kernel_rfl) (fun _ _ _ h => h) (Or.inl ⟨by rfl, ?hyC20⟩) hSC ?restC20
  case hyC20 => (intro W hW; (try dsimp only at hW); go_simp; try with_reducible rfl)
  try simp only [Act.put, List.setIfInBounds_toArray, List.set_cons_zero, List.set_cons_succ]
  refine takeH 8 (oi := ⟨some 48, _, _, _, _, _⟩) (v := ?_) rfl (by kernel_rfl) (by kernel_rfl) (by kernel_rfl) (fun _ _ _ h => h) (Or.inl ⟨by rfl, ?hyC21⟩) hSC ?restC21
  case hyC21 => (intro W hW; (try dsimp only at hW); go_simp; try with_reducible rfl)
  try simp only [Act.put, List.setIfInBounds_toArray, List.set_cons_zero, List.set_cons_succ]
  refine takeH 9 (oi := ⟨some 49, _, _, _, _, _⟩) (v := ?_) rfl (by kernel_rfl) (by kernel_rfl) (by kernel_rfl) (fun _ _ _ h => h) (Or.inl ⟨by rfl, ?hyC22⟩) hSC ?restC22
  case hyC22 => (intro W hW; (try dsimp only at hW); go_simp; try with_reducible rfl)
  try simp only [Act.put, List.setIfInBounds_toArray, List.set_cons_zero, List.set_cons_succ]
  refine one (i := 10) (by kernel_rfl) ?_
  refine wpOp_wanted rfl (by rfl) fun K hK => ?_
  go_simp
  with_reducible refine (HAD.out _ (HB1.out.trans (BLC.mono HB1.out.size))).mono ?_
  rintro e wC23 ⟨rfl, B2, hd, hc, hy⟩
  have SC23 : Chg (B) w1 wC23 := (Chg.ofBelow BLC).trans hc (fun b _ h => h)
  have HTR4 := Lib.hid hd
  have HB4 : Hid (∀ b, B2 b → B b ∨ w1.heap.size ≤ b) := Lib.hid (fun b hb => (hy b hb).imp id (fun h => Nat.le_trans BLC.size h))
  clear hd hy hc
  refine hK _ _ ⟨SC23, ?_⟩
  clear hK K
  try simp only [Act.put, List.setIfInBounds_toArray, List.set_cons_zero, List.set_cons_succ]
  refine takeH 11 (oi := ⟨some 39, _, _, _, _, _⟩) (v := ?_) rfl (by kernel_rfl) (by kernel_rfl) (by kernel_rfl) (fun _ _ _ h => h) (Or.inl ⟨by rfl, ?hyC24⟩) SC23 ?restC24
  case hyC24 => (intro W hW; (try dsimp only at hW); go_simp; try with_reducible rfl)
  try simp only [Act.put, List.setIfInBounds_toArray, List.set_cons_zero, List.set_cons_succ]
  refine takeH 12 (oi := ⟨some 51, _, _, _, _, _⟩) (v := ?_) rfl (by kernel_rfl) (by kernel_rfl) (by kernel_rfl) (fun _ _ _ h => h) (Or.inl ⟨by rfl, ?hyC25⟩) SC23 ?restC25
  case hyC25 => (intro W hW; (try dsimp only at hW); go_simp; try with_reducible rfl)
  try simp only [Act.put, List.setIfInBounds_toArray, List.set_cons_zero, List.set_cons_succ]
  refine takeH 13 (oi := ⟨some 52, _, _, _, _, _⟩) (v := ?_) rfl (by kernel_rfl) (by kernel_rfl) (by kernel_rfl) (fun _ _ _ h => h) (Or.inl ⟨by rfl, ?hyC26⟩) SC23 ?restC26
  case hyC26 => (intro W hW; (try dsimp only at hW); go_simp; try with_reducible rfl)
  try simp only [Act.put, List.setIfInBounds_toArray, List.set_cons_zero, List.set_cons_succ]
  refine takeH 14 (oi := ⟨some 9, _, _, _, _, _⟩) (v := ?_) rfl (by kernel_rfl) (by kernel_rfl) (by kernel_rfl) (fun _ _ _ h => h) (Or.inl ⟨by rfl, ?hyC27⟩) SC23 ?restC27
  case hyC27 => (intro W hW; (try dsimp only at hW); go_simp; try with_reducible rfl)
  try simp only [Act.put, List.setIfInBounds_toArray, List.set_cons_zero, List.set_cons_succ]
  refine takeH 15 (oi := ⟨some 10, _, _, _, _, _⟩) (v := ?_) rfl (by kernel_rfl) (by kernel_rfl) (by kernel_rfl) (fun _ _ _ h => h) (Or.inl ⟨by rfl, ?hyC28⟩) SC23 ?restC28
  case hyC28 => (intro W hW; (try dsimp only at hW); go_simp; try with_reducible rfl)
  try simp only [Act.put, List.setIfInBounds_toArray, List.set_cons_zero, List.set_cons_succ]
  refine wpAnyH_done (by kernel_rfl) ?_ _
  clear q1C q3C k0C k1C k2C
  have HC4 := Lib.hid (SC23)
  generalize wC23 = wX at HC4 HTR4 ⊢
  have HCX : Hid (Chg B w wX) := Lib.hid ((Chg.ofBelow (B := B) HB1.out).trans HC4.out (fun b _ h => h))
  have HTX : Hid (TSh wX X tb tp mp T A i S av sv) := Lib.hid (HT.out.of HCX.out.size (fun b hb => HCX.out.block b (HT.out.lt b hb) (fun h => HBX.out b h hb)))
  have HKX : Hid (Blk wX w.heap.size 57 [.int .i64 3, .int .i64 k2, .string k3]) := Lib.hid (HK1.out.of (HC4.out.block _ HK1.out.lt hBk.out))
  have HVX : Hid (Blk wX (w.heap.size + 1) 57 [.int .i64 v1, .int .i64 v2, .string v3]) := Lib.hid (HV1.out.of (HC4.out.block _ HV1.out.lt hBv.out))
  have HTRX := Lib.hid HTR4.out
  have HBX2 : Hid (∀ b, B2 b → B b ∨ w.heap.size ≤ b) := Lib.hid (fun b hb => (HB4.out b hb).imp id (fun h => Nat.le_trans HB1.out.size h))
  have HBQ : Hid (∀ b, B2 b → ¬ X b) := Lib.hid (fun b hb hx => Or.elim (c := False) (HBX2.out b hb) (fun h => HBX.out b h hx) (fun h => by have h1 := HT.out.lt b hx; omega))
  have HCALL := Lib.hid (thash_calls HTX.out HTRX.out HBQ.out HOW.out)
  go_upto_region 15 with (go_at_call 150; go_loud ((with_reducible refine (HCALL.out).mono ?_); rintro e wh ⟨rfl, d, Y, hd1, hd2, hd3⟩; have HH := Lib.hid hd1; have HHY := Lib.hid hd2; have HHC := Lib.hid hd3; clear hd1 hd2 hd3))
  have hs1 := Lib.hid HCX.out.size
  have hs2 := Lib.hid HHC.out.size
  have hYt : Hid (¬ Y tb) := Lib.hid (fun hb => (HH.out.ownY tb hb).2.1 rfl)
  have hYk : Hid (¬ Y w.heap.size) := Lib.hid (fun hb => by have h1 := HHY.out _ hb; have h2 := HKX.out.lt; omega)
  have hYv : Hid (¬ Y (w.heap.size + 1)) := Lib.hid (fun hb => by have h1 := HHY.out _ hb; have h2 := HVX.out.lt; omega)
  have htk : Hid (w.heap.size ≠ tb ∧ w.heap.size + 1 ≠ tb) := Lib.hid (by have := htl.out; omega)
  have HKH : Hid (Blk wh w.heap.size 57 [.int .i64 3, .int .i64 k2, .string k3]) := Lib.hid (HKX.out.of (HHC.out.block _ HKX.out.lt htk.out.1))
  have HVH : Hid (Blk wh (w.heap.size + 1) 57 [.int .i64 v1, .int .i64 v2, .string v3]) := Lib.hid (HVX.out.of (HHC.out.block _ HVX.out.lt htk.out.2))
  have HST := Lib.hid (fun (W : World) (h : DAt W Y d (strPairs (ksOf T i) S) 128) => dset_calls h (by omega) ⟨3, k2, k3⟩ ⟨v1, v2, v3⟩ HKZ.out)
  rw [HSF.out] at HST
  have BLZ : Below wh.heap.size wh ({ wh with drawn := wh.drawn + 1 } : World) := ⟨rfl, rfl, rfl, Nat.le_refl _, fun _ _ => rfl⟩
  refine wp_region_held (S := Chg (Y) wh) (by kernel_rfl) ?_
  have hSZ : Chg (Y) wh ({ wh with drawn := wh.drawn + 1 } : World) := Chg.ofBelow BLZ
  generalize ({ wh with drawn := wh.drawn + 1 } : World) = wZ at hSZ BLZ ⊢
  have q5Z : ∀ W, Chg (Y) wh W → W.cell? ⟨tb, 5, none⟩ = some (.pointer (some ⟨d, 0, none⟩)) := fun W hW => (HH.out.hd.of (hW.block tb HH.out.hd.lt hYt.out)).cell 5 _ rfl
  have k0Z : ∀ W, Chg (Y) wh W → W.cell? ⟨w.heap.size, 0, none⟩ = some (.int .i64 3) := fun W hW => (HKH.out.of (hW.block _ HKH.out.lt hYk.out)).cell 0 _ rfl
  have k1Z : ∀ W, Chg (Y) wh W → W.cell? ⟨w.heap.size, 1, none⟩ = some (.int .i64 k2) := fun W hW => (HKH.out.of (hW.block _ HKH.out.lt hYk.out)).cell 1 _ rfl
  have k2Z : ∀ W, Chg (Y) wh W → W.cell? ⟨w.heap.size, 2, none⟩ = some (.string k3) := fun W hW => (HKH.out.of (hW.block _ HKH.out.lt hYk.out)).cell 2 _ rfl
  have v0Z : ∀ W, Chg (Y) wh W → W.cell? ⟨w.heap.size + 1, 0, none⟩ = some (.int .i64 v1) := fun W hW => (HVH.out.of (hW.block _ HVH.out.lt hYv.out)).cell 0 _ rfl
  have v1Z : ∀ W, Chg (Y) wh W → W.cell? ⟨w.heap.size + 1, 1, none⟩ = some (.int .i64 v2) := fun W hW => (HVH.out.of (hW.block _ HVH.out.lt hYv.out)).cell 1 _ rfl
  have v2Z : ∀ W, Chg (Y) wh W → W.cell? ⟨w.heap.size + 1, 2, none⟩ = some (.string v3) := fun W hW => (HVH.out.of (hW.block _ HVH.out.lt hYv.out)).cell 2 _ rfl
  refine takeH 0 (oi := ⟨some 71, _, _, _, _, _⟩) (v := ?_) rfl (by kernel_rfl) (by kernel_rfl) (by kernel_rfl) (fun _ _ _ h => h) (Or.inl ⟨by rfl, ?hyZ29⟩) hSZ ?restZ29
  case hyZ29 => (intro W hW; (try dsimp only at hW); go_simp; try with_reducible rfl)
  try simp only [Act.put, List.setIfInBounds_toArray, List.set_cons_zero, List.set_cons_succ]
  refine takeH 1 (oi := ⟨some 72, _, _, _, _, _⟩) (v := ?_) rfl (by kernel_rfl) (by kernel_rfl) (by kernel_rfl) (fun _ _ _ h => h) (Or.inl ⟨by rfl, ?hyZ30⟩) hSZ ?restZ30
  case hyZ30 => (intro W hW; (try dsimp only at hW); go_simp; try with_reducible rfl)
  try simp only [Act.put, List.setIfInBounds_toArray, List.set_cons_zero, List.set_cons_succ]
  refine takeH 2 (oi := ⟨some 73, _, _, _, _, _⟩) (v := ?_) rfl (by kernel_rfl) (by kernel_rfl) (by kernel_rfl) (fun _ _ _ h => h) (Or.inl ⟨by rfl, ?hyZ31⟩) hSZ ?restZ31
  case hyZ31 => (intro W hW; (try dsimp only at hW); go_simp; try with_reducible rfl)
  try simp only [Act.put, List.setIfInBounds_toArray, List.set_cons_zero, List.set_cons_succ]
  refine takeH 3 (oi := ⟨some 74, _, _, _, _, _⟩) (v := ?_) rfl (by kernel_rfl) (by kernel_rfl) (by kernel_rfl) (fun _ _ _ h => h) (Or.inl ⟨by rfl, ?hyZ32⟩) hSZ ?restZ32
  case hyZ32 => (intro W hW; (try dsimp only at hW); go_simp; try with_reducible rfl)
  try simp only [Act.put, List.setIfInBounds_toArray, List.set_cons_zero, List.set_cons_succ]
  refine takeH 4 (oi := ⟨some 75, _, _, _, _, _⟩) (v := ?_) rfl (by kernel_rfl) (by kernel_rfl) (by kernel_rfl) (fun _ _ _ h => h) (Or.inl ⟨by rfl, ?hyZ33⟩) hSZ ?restZ33
  case hyZ33 => (intro W hW; (try dsimp only at hW); go_simp; try with_reducible rfl)
  try simp only [Act.put, List.setIfInBounds_toArray, List.set_cons_zero, List.set_cons_succ]
  refine takeH 5 (oi := ⟨some 76, _, _, _, _, _⟩) (v := ?_) rfl (by kernel_rfl) (by kernel_rfl) (by kernel_rfl) (fun _ _ _ h => h) (Or.inl ⟨by rfl, ?hyZ34⟩) hSZ ?restZ34
  case hyZ34 => (intro W hW; (try dsimp only at hW); go_simp; try with_reducible rfl)
  try simp only [Act.put, List.setIfInBounds_toArray, List.set_cons_zero, List.set_cons_succ]
  refine one (i := 6) (by kernel_rfl) ?_
  refine wpOp_wanted rfl (by rfl) fun K hK => ?_
  go_simp
  with_reducible refine (HST.out _ (HH.out.dict.below BLZ)).mono ?_
  rintro e wZ35 ⟨rfl, Y2, hd, hy, hc⟩
  have SZ35 : Chg (Y) wh wZ35 := (Chg.ofBelow BLZ).trans hc (fun b _ h => h)
  have HD4 := Lib.hid hd
  have HY4 : Hid (∀ b, Y2 b → Y b ∨ wh.heap.size ≤ b) := Lib.hid (fun b hb => (hy b hb).imp id (fun h => Nat.le_trans BLZ.size h))
  clear hd hy hc
  refine hK _ _ ⟨SZ35, ?_⟩
  clear hK K
  try simp only [Act.put, List.setIfInBounds_toArray, List.set_cons_zero, List.set_cons_succ]
  refine takeH 7 (oi := ⟨some 70, _, _, _, _, _⟩) (v := ?_) rfl (by kernel_rfl) (by kernel_rfl) (by kernel_rfl) (fun _ _ _ h => h) (Or.inl ⟨by rfl, ?hyZ36⟩) SZ35 ?restZ36
  case hyZ36 => (intro W hW; (try dsimp only at hW); go_simp; try with_reducible rfl)
  try simp only [Act.put, List.setIfInBounds_toArray, List.set_cons_zero, List.set_cons_succ]
  refine takeH 8 (oi := ⟨some 78, _, _, _, _, _⟩) (v := ?_) rfl (by kernel_rfl) (by kernel_rfl) (by kernel_rfl) (fun _ _ _ h => h) (Or.inl ⟨by rfl, ?hyZ37⟩) SZ35 ?restZ37
  case hyZ37 => (intro W hW; (try dsimp only at hW); go_simp; try with_reducible rfl)
  try simp only [Act.put, List.setIfInBounds_toArray, List.set_cons_zero, List.set_cons_succ]
  refine takeH 9 (oi := ⟨some 79, _, _, _, _, _⟩) (v := ?_) rfl (by kernel_rfl) (by kernel_rfl) (by kernel_rfl) (fun _ _ _ h => h) (Or.inl ⟨by rfl, ?hyZ38⟩) SZ35 ?restZ38
  case hyZ38 => (intro W hW; (try dsimp only at hW); go_simp; try with_reducible rfl)
  try simp only [Act.put, List.setIfInBounds_toArray, List.set_cons_zero, List.set_cons_succ]
  refine takeH 10 (oi := ⟨some 11, _, _, _, _, _⟩) (v := ?_) rfl (by kernel_rfl) (by kernel_rfl) (by kernel_rfl) (fun _ _ _ h => h) (Or.inl ⟨by rfl, ?hyZ39⟩) SZ35 ?restZ39
  case hyZ39 => (intro W hW; (try dsimp only at hW); go_simp; try with_reducible rfl)
  try simp only [Act.put, List.setIfInBounds_toArray, List.set_cons_zero, List.set_cons_succ]
  refine takeH 11 (oi := ⟨some 12, _, _, _, _, _⟩) (v := ?_) rfl (by kernel_rfl) (by kernel_rfl) (by kernel_rfl) (fun _ _ _ h => h) (Or.inl ⟨by rfl, ?hyZ40⟩) SZ35 ?restZ40
  case hyZ40 => (intro W hW; (try dsimp only at hW); go_simp; try with_reducible rfl)
  try simp only [Act.put, List.setIfInBounds_toArray, List.set_cons_zero, List.set_cons_succ]
  refine wpAnyH_done (by kernel_rfl) ?_ _
  clear q5Z k0Z k1Z k2Z v0Z v1Z v2Z
  have HC := Lib.hid (SZ35)
  generalize wZ35 = wz at HC HD4 HY4 ⊢
  go_wp2
  go_ret
  have hz := HH.out.setRest HC.out HD4.out HY4.out
  have hnewY : ∀ b, Y2 b → wX.heap.size ≤ b := fun b hb => (HY4.out b hb).elim (HHY.out b) (fun h => by have := hs2.out; omega)
  refine ⟨rfl, _, Y2, d, B2, hz, ?_, fun b hb => ?_, fun b hb => HBX2.out b hb, fun b hb hx => ?_, ?_⟩
  · refine HTRX.out.of (Nat.le_trans hs2.out HC.out.size) (fun b hb => ?_)
    have hl := HTRX.out.lt b hb
    have hbt : b ≠ tb := fun e => Or.elim (c := False) (HBX2.out b hb) (fun h => HBX.out b h (e ▸ HT.out.ownT)) (fun h => by have := htl.out; omega)
    exact (HC.out.block b (Nat.lt_of_lt_of_le hl hs2.out) (fun hy => by have := HHY.out b hy; omega)).trans (HHC.out.block b hl hbt)
  · rcases hb with (hb | hb) | hb
    · exact .inl hb
    · have := HHY.out b hb; have h2 := hs1.out; exact .inr (by omega)
    · have := hnewY b hb; have h2 := hs1.out; exact .inr (by omega)
  · have hl := HTRX.out.lt b hb
    rcases hx with (hx | hx) | hx
    · exact Or.elim (c := False) (HBX2.out b hb) (fun h => HBX.out b h hx) (fun h => by have h1 := HT.out.lt b hx; omega)
    · have := HHY.out b hx; omega
    · have := hnewY b hx; omega
  · have c1 : Chg (fun b => X b ∨ B b) w wX := HCX.out.mono (C := fun b => X b ∨ B b) (fun b _ h => .inr h)
    have c2 : Chg (fun b => X b ∨ B b) w wh := c1.trans HHC.out (fun b _ h => .inl (by subst h; exact HT.out.ownT))
    exact c2.trans HC.out (fun b hb h => by have h1 := HHY.out b h; have h2 := hs1.out; omega)
end
end Go.Proofs.Ytmjfmfelbmbniaa

/- Layer 14: other, of any table. -/
namespace Go.Proofs.Ytmjfmfelbmbniaa
open Go.RowKit Go.Maps HK ShM
set_option linter.unusedVariables false
set_option linter.unusedSimpArgs false
section
variable {w w' w1 : World} {X Y B : Nat → Prop} {tb i M N d : Nat} {tp mp av sv : Value} {T : List Sh} {A S : List Val} {R : Pairs} {s : Tab} {D F : Int}
theorem THa.mono (h : THa w X tb tp mp A R M av d Y) {K : Nat} (hK : M ≤ K) : THa w X tb tp mp A R K av d Y := { h with dict := h.dict.mono hK }
theorem TAt.mono (h : TAt w X tb tp mp T s N) {K : Nat} (hK : N ≤ K) : TAt w X tb tp mp T s K := by
  obtain ⟨h0, h | ⟨h1, h2, av, d, Y, h3⟩⟩ := h
  · exact ⟨by omega, .inl h⟩
  · exact ⟨by omega, .inr ⟨h1, h2, av, d, Y, h3.mono (by omega)⟩⟩
theorem TAt.grow (h : TAt w X tb tp mp T s N) (U : List Sh) : TAt w X tb tp mp (T ++ U) s N := by
  obtain ⟨h0, ⟨h1, S, av, sv, h2, h3⟩ | h⟩ := h
  · exact ⟨h0, .inl ⟨h1, S, av, sv, h2.grow U, by rw [ksOf_app T U h2.lti]; exact h3⟩⟩
  · exact ⟨h0, .inr h⟩
/-- What a step on a table leaves: the table, the tree, what was not theirs. -/
def TRes (w w' : World) (X B : Nat → Prop) (tb : Nat) (tp mp : Value) (D F : Int) (T : List Sh) (s : Tab) (N : Nat) : Prop :=
  ∃ X' B', TAt w' X' tb tp mp T s N ∧ Tr w' B' tp D F T ∧ (∀ b, X' b → X b ∨ w.heap.size ≤ b) ∧ (∀ b, B' b → B b ∨ w.heap.size ≤ b) ∧ (∀ b, B' b → ¬ X' b) ∧ Chg (fun b => X b ∨ B b) w w'
theorem TRes.same (h : TAt w X tb tp mp T s N) (ht : Tr w B tp D F T) (hB : ∀ b, B b → ¬ X b) (hb : Below w.heap.size w w') : TRes w w' X B tb tp mp D F T s N :=
  ⟨X, B, h.below hb, ht.below hb, fun b h => .inl h, fun b h => .inl h, hB, Chg.ofBelow hb⟩
/-- A step that leaves the tree. -/
theorem TRes.own {X' : Nat → Prop} (h : TAt w' X' tb tp mp T s N) (ht : Tr w B tp D F T) (hB : ∀ b, B b → ¬ X b) (hx : ∀ b, X' b → X b ∨ w.heap.size ≤ b) (hc : Chg X w w') : TRes w w' X B tb tp mp D F T s N :=
  ⟨X', B, h, ht.of hc.size (fun b hb => hc.block b (ht.lt b hb) (hB b hb)), hx, fun b h => .inl h, fun b hb h => by
    rcases hx b h with h | h
    · exact hB b hb h
    · have := ht.lt b hb; omega, hc.mono (fun b _ h => .inl h)⟩
/-- Behind what only made memory. -/
theorem TRes.from (hb : Below w.heap.size w w1) (h : TRes w1 w' X B tb tp mp D F T s N) : TRes w w' X B tb tp mp D F T s N := by
  obtain ⟨X', B', h1, h2, h3, h4, h5, h6⟩ := h
  exact ⟨X', B', h1, h2, fun b h => (h3 b h).imp id (Nat.le_trans hb.size), fun b h => (h4 b h).imp id (Nat.le_trans hb.size), h5, (Chg.ofBelow hb).trans h6 (fun b _ h => h)⟩
theorem TRes.to (h : TRes w w1 X B tb tp mp D F T s N) (hb : Below w1.heap.size w1 w') : TRes w w' X B tb tp mp D F T s N := by
  obtain ⟨X', B', h1, h2, h3, h4, h5, h6⟩ := h
  exact ⟨X', B', h1.below hb, h2.below hb, h3, h4, h5, h6.trans (Chg.ofBelow (B := fun b => X b ∨ B b) hb) (fun b _ h => h)⟩
def ownR (R : Pairs) : Prop := ∀ p ∈ R, p.2.own = p.2
theorem strPairs_val : ∀ {ks : List ByteArray} {S : List Val} {v : Val}, S.length = ks.length → v ∈ S → ∃ k, (strV k, v) ∈ strPairs ks S
  | _, [], _, _, h => by cases h
  | [], _ :: _, _, h, _ => by simp at h
  | k :: ks, u :: S, v, h, hm => by
    rcases List.mem_cons.1 hm with rfl | hm
    · exact ⟨k, List.mem_cons_self ..⟩
    · obtain ⟨a, ha⟩ := strPairs_val (by simpa using h) hm
      exact ⟨a, List.mem_cons_of_mem _ ha⟩
theorem setL_len (L : Pairs) (x v : Val) : (setL L x v).length ≤ L.length + 1 := by
  unfold setL
  split
  · omega
  · split
    · simp [setA]
    · split
      · omega
      · simp
theorem tother_calls (h : TAt w X tb tp mp T s N) (ht : Tr w B tp D F T) (hB : ∀ b, B b → ¬ X b) (hO : ownR s.R) (x v : Val) (hx : x.s.size ≤ maxLen) (hb : x.bad = false) (hkx : keyV x = x) (hv : v.own = v) (hN : N ≤ 100000) :
    Calls Try.prog 121 #[.pointer (some ⟨tb, 0, none⟩), x.v, v.v] w fun e w' => e = .returned (.int .i64 (otherM D F T s x v).fresh) ∧ TRes w w' X B tb tp mp D F (otherM D F T s x v).T (otherM D F T s x v).s (N + 1) := by
  obtain ⟨k1, k2, k3⟩ := x
  obtain ⟨v1, v2, v3⟩ := v
  have hlen := setL_len s.R ⟨k1, k2, k3⟩ ⟨v1, v2, v3⟩
  obtain ⟨h0, ⟨hh, S, av, sv, h2, h3⟩ | ⟨hh, hi, av, d, Y, h2⟩⟩ := h
  · have ho : ∀ v ∈ S, v.own = v := fun v hm => by
      obtain ⟨k, hk⟩ := strPairs_val h2.len hm
      exact hO _ (h3 ▸ hk)
    obtain ⟨A, R, hs, i⟩ := s
    simp only at hh h2 h3 h0 hlen
    subst hh h3
    have hS6 : S.length ≤ 64 := by rw [h2.len]; exact h2.le64
    cases hsl : slotX T i ⟨k1, k2, k3⟩ with
    | some j =>
      have hk1 : k1 = 3 := by
        unfold slotX at hsl
        by_cases e : k1 = 3
        · exact e
        · rw [if_neg e] at hsl; cases hsl
      have hj : slotOf (ksOf T i) k3 = some j := by
        unfold slotX at hsl
        rwa [if_pos hk1] at hsl
      have hlt := (List.getElem?_eq_some_iff.1 (slotOf_get hj)).1
      have hlS : j < S.length := by rw [h2.len]; exact hlt
      have hS : S[j]? = some S[j] := List.getElem?_eq_getElem hlS
      obtain ⟨e1, e2⟩ := set_slot h2.len h2.nd h2.sz (x := ⟨k1, k2, k3⟩) (v := ⟨v1, v2, v3⟩) hk1 hj
      rw [hv] at e1
      have eO : otherM D F T ⟨A, strPairs (ksOf T i) S, false, i⟩ ⟨k1, k2, k3⟩ ⟨v1, v2, v3⟩ = ⟨0, 0, ⟨A, strPairs (ksOf T i) (S.set j ⟨v1, v2, v3⟩), false, i⟩, T⟩ := by
        unfold otherM; rw [e2, e1]; rfl
      rw [eO]
      refine (tother_slot h2 ht hB k1 k2 k3 v1 v2 v3 hx hS hsl).mono ?_
      rintro e w' ⟨rfl, h5, h6⟩
      refine ⟨rfl, TRes.own ⟨?_, .inl ⟨rfl, _, _, _, h5, rfl⟩⟩ ht hB (fun b h => .inl h) h6⟩
      rw [e1] at hlen
      show A.length + (strPairs (ksOf T i) (S.set j ⟨v1, v2, v3⟩)).length ≤ N + 1
      omega
    | none =>
      have hm : k1 = 3 → slotOf (ksOf T i) k3 = none := fun e => by
        unfold slotX at hsl
        rwa [if_pos e] at hsl
      obtain ⟨e1, e2⟩ := set_none h2.len h2.nd (x := ⟨k1, k2, k3⟩) (v := ⟨v1, v2, v3⟩) hb hm
      rw [hv] at e1 e2
      by_cases hv0 : v1 = 0
      · have e2 : setF (strPairs (ksOf T i) S) ⟨k1, k2, k3⟩ ⟨v1, v2, v3⟩ = false := by rw [e2]; simp [hv0]
        have e1 : setL (strPairs (ksOf T i) S) ⟨k1, k2, k3⟩ ⟨v1, v2, v3⟩ = strPairs (ksOf T i) S := by rw [e1]; simp [hv0]
        have eO : otherM D F T ⟨A, strPairs (ksOf T i) S, false, i⟩ ⟨k1, k2, k3⟩ ⟨v1, v2, v3⟩ = ⟨0, 0, ⟨A, strPairs (ksOf T i) S, false, i⟩, T⟩ := by
          unfold otherM; rw [e2, e1]; rfl
        rw [eO]
        refine (tother_nil h2 ht hB k1 k2 k3 v1 v2 v3 hx hsl hv0).mono ?_
        rintro e w' ⟨rfl, h5⟩
        exact ⟨rfl, TRes.same ⟨by show A.length + (strPairs (ksOf T i) S).length ≤ N + 1; omega, .inl ⟨rfl, _, _, _, h2, rfl⟩⟩ ht hB h5⟩
      · have e2 : setF (strPairs (ksOf T i) S) ⟨k1, k2, k3⟩ ⟨v1, v2, v3⟩ = true := by rw [e2]; simp [hv0]
        by_cases hk1 : k1 = 3
        · have hmem : k3 ∉ ksOf T i := slotOf_none.1 (hm hk1)
          have hkk : keyV ⟨k1, k2, k3⟩ = strV k3 := (keyV_str (x := ⟨k1, k2, k3⟩) hk1).1
          rcases add_spec (D := D) (F := F) ht.wf h2.lti hmem with ⟨a1, a2⟩ | ⟨a1, n, a2, a3, a4⟩
          · have eO : otherM D F T ⟨A, strPairs (ksOf T i) S, false, i⟩ ⟨k1, k2, k3⟩ ⟨v1, v2, v3⟩ = ⟨1, 0, ⟨A, setL (strPairs (ksOf T i) S) ⟨k1, k2, k3⟩ ⟨v1, v2, v3⟩, true, 0⟩, T⟩ := by
              unfold otherM
              rw [e2, hkk]
              simp [a1]
            rw [eO]
            refine (tother_full h2 ht hB k1 k2 k3 v1 v2 v3 hx hsl hv0 ho e2 hk1 a1 a2).mono ?_
            rintro e w' ⟨rfl, X', Y', d, B', h5, h6, h7, h8, h9, h10⟩
            exact ⟨rfl, X', B', ⟨by show A.length + (setL (strPairs (ksOf T i) S) ⟨k1, k2, k3⟩ ⟨v1, v2, v3⟩).length ≤ N + 1; omega, .inr ⟨rfl, rfl, _, _, _, h5.mono (by omega)⟩⟩, h6, h7, h8, h9, h10⟩
          · have eL : setL (strPairs (ksOf T i) S) ⟨k1, k2, k3⟩ ⟨v1, v2, v3⟩ = strPairs (ksOf (addM D F T (i : Nat) k3).T n) (S ++ [⟨v1, v2, v3⟩]) := by
              rw [e1, a4, hkk]
              have : ¬ ((⟨v1, v2, v3⟩ : Val).k = 0) := hv0
              rw [if_neg this, strPairs_snoc _ _ h2.len]
            have eO : otherM D F T ⟨A, strPairs (ksOf T i) S, false, i⟩ ⟨k1, k2, k3⟩ ⟨v1, v2, v3⟩ = ⟨1, 0, ⟨A, strPairs (ksOf (addM D F T (i : Nat) k3).T n) (S ++ [⟨v1, v2, v3⟩]), false, n⟩, (addM D F T (i : Nat) k3).T⟩ := by
              unfold otherM
              rw [e2, hkk, eL]
              simp [a1, a2]
            rw [eL] at hlen
            rw [eO]
            refine (tother_add h2 ht hB k1 k2 k3 v1 v2 v3 hx hsl hv0 hk1 a1 a2 a3 a4 hmem (by omega)).mono ?_
            rintro e w' ⟨rfl, X', B', sv', h5, h6, h7, h8, h9, h10⟩
            exact ⟨rfl, X', B', ⟨by show A.length + (strPairs (ksOf (addM D F T (i : Nat) k3).T n) (S ++ [⟨v1, v2, v3⟩])).length ≤ N + 1; omega, .inl ⟨rfl, _, _, _, h5, rfl⟩⟩, h6, h7, h8, h9, h10⟩
        · have eO : otherM D F T ⟨A, strPairs (ksOf T i) S, false, i⟩ ⟨k1, k2, k3⟩ ⟨v1, v2, v3⟩ = ⟨1, 0, ⟨A, setL (strPairs (ksOf T i) S) ⟨k1, k2, k3⟩ ⟨v1, v2, v3⟩, true, 0⟩, T⟩ := by
            unfold otherM
            rw [e2, hkx]
            simp [hk1]
          rw [eO]
          refine (tother_key h2 ht hB k1 k2 k3 v1 v2 v3 hx hsl hv0 ho e2 (by simpa using hk1)).mono ?_
          rintro e w' ⟨rfl, X', Y', d, B', h5, h6, h7, h8, h9, h10⟩
          exact ⟨rfl, X', B', ⟨by show A.length + (setL (strPairs (ksOf T i) S) ⟨k1, k2, k3⟩ ⟨v1, v2, v3⟩).length ≤ N + 1; omega, .inr ⟨rfl, rfl, _, _, _, h5.mono (by omega)⟩⟩, h6, h7, h8, h9, h10⟩
  · obtain ⟨A, R, hs, i⟩ := s
    simp only at hh hi h2 h0 hlen
    subst hh hi
    cases hf : setF R ⟨k1, k2, k3⟩ ⟨v1, v2, v3⟩ with
    | true =>
      have eO : otherM D F T ⟨A, R, true, 0⟩ ⟨k1, k2, k3⟩ ⟨v1, v2, v3⟩ = ⟨1, 0, ⟨A, setL R ⟨k1, k2, k3⟩ ⟨v1, v2, v3⟩, true, 0⟩, T⟩ := by unfold otherM; rw [hf]; rfl
      rw [eO]
      refine (tother_hatrue h2 k1 k2 k3 v1 v2 v3 hx (by omega) hf).mono ?_
      rintro e w' ⟨rfl, X', Y', h5, h6, h7⟩
      exact ⟨rfl, TRes.own ⟨by show A.length + (setL R ⟨k1, k2, k3⟩ ⟨v1, v2, v3⟩).length ≤ N + 1; omega, .inr ⟨rfl, rfl, _, _, _, h5.mono (by omega)⟩⟩ ht hB h6 h7⟩
    | false =>
      have eO : otherM D F T ⟨A, R, true, 0⟩ ⟨k1, k2, k3⟩ ⟨v1, v2, v3⟩ = ⟨0, 0, ⟨A, setL R ⟨k1, k2, k3⟩ ⟨v1, v2, v3⟩, true, 0⟩, T⟩ := by unfold otherM; rw [hf]; rfl
      rw [eO]
      refine (tother_hafalse h2 k1 k2 k3 v1 v2 v3 hx (by omega) hf).mono ?_
      rintro e w' ⟨rfl, X', Y', h5, h6, h7⟩
      exact ⟨rfl, TRes.own ⟨by show A.length + (setL R ⟨k1, k2, k3⟩ ⟨v1, v2, v3⟩).length ≤ N + 1; omega, .inr ⟨rfl, rfl, _, _, _, h5.mono (by omega)⟩⟩ ht hB h6 h7⟩
end
end Go.Proofs.Ytmjfmfelbmbniaa

/- Layer 14: grow. -/
namespace Go.Proofs.Ytmjfmfelbmbniaa
open Go.RowKit Go.Maps HK ShM
set_option linter.unusedVariables false
set_option linter.unusedSimpArgs false
open RH
/-- A value behind a table's array. -/
structure AppR (w5 w' : World) (tb : Nat) (av av' : Value) (A : List Val) (x : Val) (rest : List Value) : Prop where
  hd : Blk w' tb 202 (av' :: rest)
  arr : OwnV w' 0 av' (A ++ [x])
  size : w5.heap.size ≤ w'.heap.size
  keep : ∀ b, b < w5.heap.size → b ≠ tb → av.ownBlock ≠ some b → w'.heap[b]? = w5.heap[b]?
  own : ∀ g, av'.ownBlock = some g → av.ownBlock = some g ∨ w5.heap.size ≤ g
  chg : Chg (fun b => b = tb ∨ av.ownBlock = some b) w5 w'
section
variable {w w' w5 : World} {X Y B : Nat → Prop} {tb i M N d : Nat} {tp mp av av' sv : Value} {T : List Sh} {A S : List Val} {R : Pairs} {s : Tab} {D F : Int} {x : Val}
theorem arr_app {rest : List Value} (hH : Blk w5 tb 202 (av :: rest)) (ho : OwnV w5 0 av A) (hl : A.length ≤ 1048576) (x : Val) :
    ∃ na nc w6, (Builtin.append_ #[55, 55] 55 #[av, .slice (some ⟨w5.heap.size, 0, none⟩) 1 1]).run Try.prog (w5.alloc (.cells #[.int .i64 x.k, .int .i64 x.n, .string x.s] 57)) = .ok (.slice na (A.length + 1) nc) w6 ∧
      Blk w6 tb 202 (av :: rest) ∧ (∀ b, b < w5.heap.size → av.ownBlock ≠ some b → w6.heap[b]? = w5.heap[b]?) ∧ AppR w5 (w6.setCell ⟨tb, 0, none⟩ (.slice na (A.length + 1) nc)) tb av (.slice na (A.length + 1) nc) A x rest := by
  have hnb : Blk (w5.alloc (.cells #[.int .i64 x.k, .int .i64 x.n, .string x.s] 57)) w5.heap.size 57 (Val.cells x) := Blk.new w5 _ 57
  have hrow : OwnV (w5.alloc (.cells #[.int .i64 x.k, .int .i64 x.n, .string x.s] 57)) 0 av A := ho.below ((Below.refl _ _).alloc (Nat.le_refl _) _)
  obtain ⟨v', w6, r, o, gr, hat⟩ := run_append_val _ 0 _ x hnb _ A hrow hl (Nat.zero_le _)
  obtain ⟨na, nc, hsf, _, _⟩ := OwnV.form o
  rw [List.length_append, List.length_singleton] at hsf
  subst hsf
  have hnt : ∀ b, b < w5.heap.size → av.ownBlock ≠ some b → w6.heap[b]? = w5.heap[b]? := fun b hb hn => (gr.block b (by simp; omega) (fun e => hn e.symm)).trans (Below.heap_alloc _ _ _ hb)
  have htn : av.ownBlock ≠ some tb := fun e => blk_ne_row hH ho e (by decide) rfl
  have hH6 := hH.of (hnt tb hH.lt htn)
  have hsz : w5.heap.size ≤ w6.heap.size := by have := gr.size; simp at this; omega
  have hown : ∀ g, (Value.slice na (A.length + 1) nc).ownBlock = some g → av.ownBlock = some g ∨ w5.heap.size ≤ g := fun g hg => by
    rcases hat with e | e
    · exact .inl (e ▸ hg)
    · rw [hg] at e; have := Option.some.inj e; simp at this; exact .inr (by omega)
  refine ⟨na, nc, w6, r, hH6, hnt, hH6.setSame 0 _, o.of (fun g hg => ?_), by simpa using hsz, fun b hb h1 h2 => ?_, hown, ?_⟩
  · refine Below.heap_setCell _ _ _ _ (fun e => ?_)
    have e : g = tb := e
    subst e
    rcases hown g hg with h1 | h1
    · exact htn h1
    · have := hH.lt; omega
  · rw [Below.heap_setCell _ _ _ _ h1, hnt b hb h2]
  · have c1 : Chg (fun b => b = tb ∨ av.ownBlock = some b) w5 w6 := ((Chg.refl _ _).alloc _).grown gr (fun g hg _ => .inr hg)
    exact c1.setCell (a := ⟨tb, 0, none⟩) (fun _ => .inl rfl) _
theorem THa.app (h : THa w5 X tb tp mp A R M av d Y) (h' : AppR w5 w' tb av av' A x [tp, .int .i64 2, .int .i64 (-1), .slice none 0 0, .pointer (some ⟨d, 0, none⟩), mp]) :
    THa w' (fun b => X b ∨ (w5.heap.size ≤ b ∧ b < w'.heap.size)) tb tp mp (A ++ [x]) R M av' d Y :=
  { hd := h'.hd, arr := h'.arr
    dict := h.dict.of h'.size (fun b hb => h'.keep b (h.lt b (h.ownY b hb).1) (h.ownY b hb).2.1 (h.ownY b hb).2.2)
    ownT := .inl h.ownT
    ownA := fun g hg => (h'.own g hg).elim (fun e => .inl (h.ownA g e)) (fun e => .inr ⟨e, (h'.arr.lt g hg).2⟩)
    ownY := fun b hb => ⟨.inl (h.ownY b hb).1, (h.ownY b hb).2.1, fun e => Or.elim (c := False) (h'.own b e) (h.ownY b hb).2.2 (fun e => by have := h.lt b (h.ownY b hb).1; omega)⟩
    lt := fun b hb => hb.elim (fun h1 => Nat.lt_of_lt_of_le (h.lt b h1) h'.size) (·.2) }
theorem THa.appC (h : THa w5 X tb tp mp A R M av d Y) {rest : List Value} (h' : AppR w5 w' tb av av' A x rest) : Chg X w5 w' := h'.chg.mono (fun b _ h1 => h1.elim (fun e => e ▸ h.ownT) (h.ownA b))
theorem TSh.app (h : TSh w5 X tb tp mp T A i S av sv) (h' : AppR w5 w' tb av av' A x [tp, .int .i64 1, .int .i64 (i : Nat), sv, .pointer none, mp]) :
    TSh w' (fun b => X b ∨ (w5.heap.size ≤ b ∧ b < w'.heap.size)) tb tp mp T (A ++ [x]) i S av' sv :=
  { h with
    hd := h'.hd, arr := h'.arr
    slo := h.slo.of (fun g hg => h'.keep g (h.slo.lt g hg).2 (fun e => blk_ne_row h.hd h.slo hg (by decide) e.symm) (fun e => h.ne g e hg))
    ne := fun g hg => Or.elim (h'.own g hg) (h.ne g) (fun e h1 => by have := (h.slo.lt g h1).2; omega)
    ownT := .inl h.ownT
    ownA := fun g hg => (h'.own g hg).elim (fun e => .inl (h.ownA g e)) (fun e => .inr ⟨e, (h'.arr.lt g hg).2⟩)
    ownS := fun g hg => .inl (h.ownS g hg)
    lt := fun b hb => hb.elim (fun h1 => Nat.lt_of_lt_of_le (h.lt b h1) h'.size) (·.2) }
theorem TSh.appC (h : TSh w5 X tb tp mp T A i S av sv) {rest : List Value} (h' : AppR w5 w' tb av av' A x rest) : Chg X w5 w' := h'.chg.mono (fun b _ h1 => h1.elim (fun e => e ▸ h.ownT) (h.ownA b))
theorem dropA_len {L : Pairs} {k v : Val} (h : getA L k = some v) : (dropA L k).length < L.length := by
  unfold getA at h
  obtain ⟨p, hp, _⟩ := Option.map_eq_some_iff.1 h
  have h1 := List.mem_of_find?_eq_some hp
  have h2 := List.find?_some hp
  exact List.length_filter_lt_length_iff_exists.2 ⟨p, h1, by simpa using h2⟩
theorem getV_some {L : Pairs} {x : Val} (h : (getV L x).k ≠ 0) : hasK L x = true ∧ getA L (keyV x) = some (getV L x) := by
  unfold getV at h ⊢
  unfold hasK
  cases hb : x.bad with
  | true => rw [hb] at h; exact absurd rfl h
  | false =>
    rw [hb] at h
    cases hg : getA L (keyV x) with
    | none => rw [hg] at h; exact absurd rfl h
    | some v => exact ⟨rfl, rfl⟩
theorem tlen_at {a : Option Addr} {n c : Nat} (c0 : w.cell? ⟨tb, 0, none⟩ = some (.slice a n c)) : Calls Try.prog 72 #[.pointer (some ⟨tb, 0, none⟩)] w fun e w' => e = .returned (.int .i64 (n : Nat)) ∧ Below w.heap.size w w' := by
  go_enter Try.func72, Try.ntmps72
  go_wp2
  go_ret
  exact ⟨rfl, Below.refl _ _⟩
theorem bel1 {w w' : World} (h : Below w.heap.size w w') (o : Obj) : Below w.heap.size w (w'.alloc o) := h.alloc h.size o
def lenOf (o : Option Value) : Nat := match o with
  | some (.slice _ n _) => n
  | _ => 0
theorem pull_stop (f : Nat) {A : List Val} {R : Pairs} (h : (getV R (intV (A.length + 1))).k = 0) : pull f A R = (A, R) := by
  cases f with
  | zero => rfl
  | succ f => show (if _ then _ else _) = _; rw [if_pos h]
theorem pull_go (f : Nat) {A : List Val} {R : Pairs} (h : (getV R (intV (A.length + 1))).k ≠ 0) : pull (f + 1) A R = pull f (A ++ [getV R (intV (A.length + 1))]) (dropA R (intV (A.length + 1))) := by
  show (if _ then _ else _) = _; rw [if_neg h]
set_option maxHeartbeats 8000000 in
set_option maxRecDepth 20000 in
theorem tgrow_sh (h : TSh w X tb tp mp T A i S av sv) (hA : A.length ≤ 1000000) (k1 k2 : Int) (k3 : ByteArray) (v1 v2 : Int) (v3 : ByteArray) : Calls Try.prog 120 #[.pointer (some ⟨tb, 0, none⟩), Val.v ⟨k1, k2, k3⟩, Val.v ⟨v1, v2, v3⟩] w fun e w' => e = .returned (.int .i64 1) ∧ ∃ X' av', TSh w' X' tb tp mp T (A ++ [⟨v1, v2, v3⟩]) i S av' sv ∧ (∀ b, X' b → X b ∨ w.heap.size ≤ b) ∧ Chg X w w' := by
  have HB0 : Hid (Below w.heap.size w ((w.alloc (.cells #[.int .i64 k1, .int .i64 k2, .string k3] 57)).alloc (.cells #[.int .i64 v1, .int .i64 v2, .string v3] 57))) := Lib.hid (by (repeat (first | exact Below.refl _ _ | (refine Below.alloc ?_ (by simp <;> omega) _))))
  have HK0 : Hid (Blk ((w.alloc (.cells #[.int .i64 k1, .int .i64 k2, .string k3] 57)).alloc (.cells #[.int .i64 v1, .int .i64 v2, .string v3] 57)) w.heap.size 57 [.int .i64 k1, .int .i64 k2, .string k3]) := Lib.hid ((Blk.new w [.int .i64 k1, .int .i64 k2, .string k3] 57).alloc _)
  have HV0 : Hid (Blk ((w.alloc (.cells #[.int .i64 k1, .int .i64 k2, .string k3] 57)).alloc (.cells #[.int .i64 v1, .int .i64 v2, .string v3] 57)) (w.heap.size + 1) 57 [.int .i64 v1, .int .i64 v2, .string v3]) := Lib.hid (by simpa using Blk.new (w.alloc (.cells #[.int .i64 k1, .int .i64 k2, .string k3] 57)) [.int .i64 v1, .int .i64 v2, .string v3] 57)
  have HTW := Lib.hid h
  obtain ⟨sa, sc, hsv, hsc1, hsc2⟩ := h.arr.form
  subst hsv
  obtain ⟨m, hm2⟩ : ∃ m, A.length = m := ⟨_, rfl⟩
  have EM := Lib.hid hm2
  have HA6 : Hid (A.length ≤ 1048576) := Lib.hid (by omega)
  rw [hm2] at HTW hsc1
  obtain ⟨w1, hw1⟩ : ∃ w1, w1 = ((w.alloc (.cells #[.int .i64 k1, .int .i64 k2, .string k3] 57)).alloc (.cells #[.int .i64 v1, .int .i64 v2, .string v3] 57)) := ⟨_, rfl⟩
  have HB1 : Hid (Below w.heap.size w w1) := Lib.hid (by rw [hw1]; exact HB0.out)
  have HT1 := Lib.hid (HTW.out.below HB1.out)
  have HV1 : Hid (Blk w1 (w.heap.size + 1) 57 [.int .i64 v1, .int .i64 v2, .string v3]) := Lib.hid (by rw [hw1]; exact HV0.out)
  have HV1nb : Hid (∀ b, (Value.slice sa m sc).ownBlock = some b → b = w.heap.size + 1 → False) := Lib.hid (fun b hb e => by have := (HTW.out.arr.lt b hb).2; omega)
  have HH1 : Hid (Blk w1 tb 202 [.slice sa m sc, tp, .int .i64 1, .int .i64 (i : Nat), sv, .pointer none, mp]) := Lib.hid HT1.out.hd
  clear h hA hm2 hsc1 hsc2
  go_enter Try.func120, Try.ntmps120
  go_upto_region 1 with (fail)
  rw [← hw1]
  clear hw1 HB0 HK0 HV0
  have hu := Try.underlying57
  refine RG.region_F (fun W => (Blk W tb 202 (.slice sa m sc :: [tp, .int .i64 1, .int .i64 (i : Nat), sv, .pointer none, mp])) ∧ Blk W (w.heap.size + 1) 57 [.int .i64 v1, .int .i64 v2, .string v3]) 10 (by kernel_rfl) ?_
  have hB0 : Below w1.heap.size w1 ({ w1 with drawn := w1.drawn + 1 } : World) := ⟨rfl, rfl, rfl, Nat.le_refl _, fun _ _ => rfl⟩
  generalize ({ w1 with drawn := w1.drawn + 1 } : World) = w5G at hB0 ⊢
  have HB5G := Lib.hid hB0
  have hH5 := Lib.hid (HH1.out.of (hB0.block _ HH1.out.lt))
  have hV5 := Lib.hid (HV1.out.of (hB0.block _ HV1.out.lt))
  have hO5 := Lib.hid ((HT1.out.arr).below hB0)
  have hS0 := And.intro hH5.out hV5.out
  refine RG.takeF 0 (oi := ⟨some 10, _, _, _, _, _⟩) (v := ?_) rfl (by kernel_rfl) (by kernel_rfl) (by kernel_rfl) (by kernel_rfl) (fun _ _ _ h => h) (Or.inl ⟨by rfl, ?hyG_10⟩) hS0 ?restG_10
  case hyG_10 => (intro W hW; have q4 := hW.1.cell 0 _ rfl; have p0 := hW.2.cell 0 _ rfl; have p1 := hW.2.cell 1 _ rfl; have p2 := hW.2.cell 2 _ rfl; go_simp; try with_reducible rfl)
  try simp only [Act.put, List.setIfInBounds_toArray, List.set_cons_zero, List.set_cons_succ]
  refine RG.takeF 1 (oi := ⟨some 11, _, _, _, _, _⟩) (v := ?_) rfl (by kernel_rfl) (by kernel_rfl) (by kernel_rfl) (by kernel_rfl) (fun _ _ _ h => h) (Or.inl ⟨by rfl, ?hyG_21⟩) hS0 ?restG_21
  case hyG_21 => (intro W hW; have q4 := hW.1.cell 0 _ rfl; have p0 := hW.2.cell 0 _ rfl; have p1 := hW.2.cell 1 _ rfl; have p2 := hW.2.cell 2 _ rfl; go_simp; try with_reducible rfl)
  try simp only [Act.put, List.setIfInBounds_toArray, List.set_cons_zero, List.set_cons_succ]
  refine RG.takeF 2 (oi := ⟨some 12, _, _, _, _, _⟩) (v := ?_) rfl (by kernel_rfl) (by kernel_rfl) (by kernel_rfl) (by kernel_rfl) (fun _ _ _ h => h) (Or.inl ⟨by rfl, ?hyG_32⟩) hS0 ?restG_32
  case hyG_32 => (intro W hW; have q4 := hW.1.cell 0 _ rfl; have p0 := hW.2.cell 0 _ rfl; have p1 := hW.2.cell 1 _ rfl; have p2 := hW.2.cell 2 _ rfl; go_simp; try with_reducible rfl)
  try simp only [Act.put, List.setIfInBounds_toArray, List.set_cons_zero, List.set_cons_succ]
  refine RG.takeF 3 (oi := ⟨some 13, _, _, _, _, _⟩) (v := ?_) rfl (by kernel_rfl) (by kernel_rfl) (by kernel_rfl) (by kernel_rfl) (fun _ _ _ h => h) (Or.inl ⟨by rfl, ?hyG_43⟩) hS0 ?restG_43
  case hyG_43 => (intro W hW; have q4 := hW.1.cell 0 _ rfl; have p0 := hW.2.cell 0 _ rfl; have p1 := hW.2.cell 1 _ rfl; have p2 := hW.2.cell 2 _ rfl; go_simp; try with_reducible rfl)
  try simp only [Act.put, List.setIfInBounds_toArray, List.set_cons_zero, List.set_cons_succ]
  refine RG.takeF 4 (oi := ⟨some 14, _, _, _, _, _⟩) (v := ?_) rfl (by kernel_rfl) (by kernel_rfl) (by kernel_rfl) (by kernel_rfl) (fun _ _ _ h => h) (Or.inl ⟨by rfl, ?hyG_54⟩) hS0 ?restG_54
  case hyG_54 => (intro W hW; have q4 := hW.1.cell 0 _ rfl; have p0 := hW.2.cell 0 _ rfl; have p1 := hW.2.cell 1 _ rfl; have p2 := hW.2.cell 2 _ rfl; go_simp; try with_reducible rfl)
  try simp only [Act.put, List.setIfInBounds_toArray, List.set_cons_zero, List.set_cons_succ]
  refine RG.takeF 5 (oi := ⟨some 15, _, _, _, _, _⟩) (v := ?_) rfl (by kernel_rfl) (by kernel_rfl) (by kernel_rfl) (by kernel_rfl) (fun _ _ _ h => h) (Or.inl ⟨by rfl, ?hyG_65⟩) hS0 ?restG_65
  case hyG_65 => (intro W hW; have q4 := hW.1.cell 0 _ rfl; have p0 := hW.2.cell 0 _ rfl; have p1 := hW.2.cell 1 _ rfl; have p2 := hW.2.cell 2 _ rfl; go_simp; try with_reducible rfl)
  try simp only [Act.put, List.setIfInBounds_toArray, List.set_cons_zero, List.set_cons_succ]
  refine RG.oneF 6 (by kernel_rfl) (by decide) ?_
  refine RG.wpOp_plain rfl rfl fun K hK => ?_
  go_simp
  refine hK _ _ ⟨⟨hH5.out.alloc _, hV5.out.alloc _⟩, ?_⟩
  clear hK K
  try simp only [Act.put, List.setIfInBounds_toArray, List.set_cons_zero, List.set_cons_succ]
  obtain ⟨na, nc, w6, r, hH6, hnt, hap⟩ := arr_app hH5.out hO5.out (HA6.out) ⟨v1, v2, v3⟩
  rw [EM.out] at r hap
  have hV6 := hV5.out.of (hnt _ hV5.out.lt (fun e => HV1nb.out _ e rfl))
  refine RG.oneF 7 (by kernel_rfl) (by decide) ?_
  refine RG.wpOp_plain rfl rfl fun K hK => ?_
  refine RG.wp_append_run _ _ 55 55 rfl rfl rfl r ?_
  refine hK _ _ ⟨⟨hH6, hV6⟩, ?_⟩
  clear hK K
  try simp only [Act.put, List.setIfInBounds_toArray, List.set_cons_zero, List.set_cons_succ]
  refine RG.oneF 8 (by kernel_rfl) (by decide) ?_
  refine RG.wpOp_plain rfl rfl fun K hK => ?_
  go_simp
  refine hK _ _ ⟨⟨hH6, hV6⟩, ?_⟩
  clear hK K
  try simp only [Act.put, List.setIfInBounds_toArray, List.set_cons_zero, List.set_cons_succ]
  refine RG.oneF 9 (by kernel_rfl) (by decide) ?_
  refine RG.wpOp_plain rfl rfl fun K hK => ?_
  go_simp
  refine hK _ _ ⟨⟨hH6, hV6⟩, ?_⟩
  clear hK K
  try simp only [Act.put, List.setIfInBounds_toArray, List.set_cons_zero, List.set_cons_succ]
  have c3 := hH6.cell 0 _ rfl
  have z3 := hH6.frozen 0
  refine RG.lastF (by kernel_rfl) (by kernel_rfl) ?_
  refine RG.wpOp_wanted rfl (by rfl) fun K hK => ?_
  go_simp
  refine hK _ _ ?_
  clear hK K
  try simp only [Act.put, List.setIfInBounds_toArray, List.set_cons_zero, List.set_cons_succ]
  have HPG := Lib.hid hap
  clear c3 z3 r hH6 hnt hap hV6 hS0
  have HT5 := Lib.hid (HT1.out.below HB5G.out)
  generalize w6.setCell ⟨tb, 0, none⟩ (Value.slice na (m + 1) nc) = w7 at HPG ⊢
  have HT7 := Lib.hid (HT5.out.app HPG.out)
  have HC7 := Lib.hid (HT5.out.appC HPG.out)
  have c2 := HPG.out.hd.cell 2 _ rfl
  clear hH5 hV5 hO5
  go_wp2
  go_ret
  refine ⟨rfl, _, _, HT7.out, fun b hb => hb.imp id (fun h => ?_), ?_⟩
  · have h1 := HB5G.out.size; have h2 := HB1.out.size; omega
  · exact (Chg.ofBelow (B := X) (HB1.out.trans (HB5G.out.mono HB1.out.size))).trans HC7.out (fun b _ h => h)
set_option maxHeartbeats 16000000 in
set_option maxRecDepth 20000 in
theorem tgrow_ha (h : THa w X tb tp mp A R M av d Y) (hA : A.length + R.length ≤ 1000000) (k1 k2 : Int) (k3 : ByteArray) (v1 v2 : Int) (v3 : ByteArray) (hk : k3.size ≤ maxLen) (hkx : keyV ⟨k1, k2, k3⟩ = ⟨k1, k2, k3⟩) : Calls Try.prog 120 #[.pointer (some ⟨tb, 0, none⟩), Val.v ⟨k1, k2, k3⟩, Val.v ⟨v1, v2, v3⟩] w fun e w' => e = .returned (.int .i64 (if hasK R ⟨k1, k2, k3⟩ then 0 else 1)) ∧ ∃ X' av', THa w' X' tb tp mp (pull R.length (A ++ [⟨v1, v2, v3⟩]) (if hasK R ⟨k1, k2, k3⟩ then dropA R ⟨k1, k2, k3⟩ else R)).1 (pull R.length (A ++ [⟨v1, v2, v3⟩]) (if hasK R ⟨k1, k2, k3⟩ then dropA R ⟨k1, k2, k3⟩ else R)).2 M av' d Y ∧ (∀ b, X' b → X b ∨ w.heap.size ≤ b) ∧ Chg X w w' := by
  have HB0 : Hid (Below w.heap.size w ((w.alloc (.cells #[.int .i64 k1, .int .i64 k2, .string k3] 57)).alloc (.cells #[.int .i64 v1, .int .i64 v2, .string v3] 57))) := Lib.hid (by (repeat (first | exact Below.refl _ _ | (refine Below.alloc ?_ (by simp <;> omega) _))))
  have HK0 : Hid (Blk ((w.alloc (.cells #[.int .i64 k1, .int .i64 k2, .string k3] 57)).alloc (.cells #[.int .i64 v1, .int .i64 v2, .string v3] 57)) w.heap.size 57 [.int .i64 k1, .int .i64 k2, .string k3]) := Lib.hid ((Blk.new w [.int .i64 k1, .int .i64 k2, .string k3] 57).alloc _)
  have HV0 : Hid (Blk ((w.alloc (.cells #[.int .i64 k1, .int .i64 k2, .string k3] 57)).alloc (.cells #[.int .i64 v1, .int .i64 v2, .string v3] 57)) (w.heap.size + 1) 57 [.int .i64 v1, .int .i64 v2, .string v3]) := Lib.hid (by simpa using Blk.new (w.alloc (.cells #[.int .i64 k1, .int .i64 k2, .string k3] 57)) [.int .i64 v1, .int .i64 v2, .string v3] 57)
  have HTW := Lib.hid h
  have HDR := Lib.hid (fun (W : World) (h : DAt W Y d R M) => ddrop_calls h ⟨k1, k2, k3⟩ hk)
  rw [hkx] at HDR
  obtain ⟨P, hP⟩ : ∃ P, pull R.length (A ++ [⟨v1, v2, v3⟩]) (if hasK R ⟨k1, k2, k3⟩ then dropA R ⟨k1, k2, k3⟩ else R) = P := ⟨_, rfl⟩
  rw [hP]
  obtain ⟨R0, hR0⟩ : ∃ R0, (if hasK R ⟨k1, k2, k3⟩ then dropA R ⟨k1, k2, k3⟩ else R) = R0 := ⟨_, rfl⟩
  rw [hR0] at HDR hP
  have HPU := Lib.hid hP
  have hR0l : R0.length ≤ R.length := by
    rw [← hR0]
    cases hasK R ⟨k1, k2, k3⟩
    · exact Nat.le_refl _
    · exact List.length_filter_le _ _
  have HRL := Lib.hid hR0l
  obtain ⟨K, hK⟩ : ∃ K, K = A.length + R.length + 1 := ⟨_, rfl⟩
  have HKL := Lib.hid (And.intro hA hK)
  obtain ⟨fr, hfr⟩ : ∃ fr, hasK R ⟨k1, k2, k3⟩ = fr := ⟨_, rfl⟩
  rw [hfr] at HDR ⊢
  clear hP hR0 hR0l hK hfr
  obtain ⟨sa, sc, hsv, hsc1, hsc2⟩ := h.arr.form
  subst hsv
  obtain ⟨m, hm2⟩ : ∃ m, A.length = m := ⟨_, rfl⟩
  have EM := Lib.hid hm2
  have HA6 : Hid (A.length ≤ 1048576) := Lib.hid (by omega)
  rw [hm2] at HTW hsc1
  obtain ⟨w1, hw1⟩ : ∃ w1, w1 = ((w.alloc (.cells #[.int .i64 k1, .int .i64 k2, .string k3] 57)).alloc (.cells #[.int .i64 v1, .int .i64 v2, .string v3] 57)) := ⟨_, rfl⟩
  have HB1 : Hid (Below w.heap.size w w1) := Lib.hid (by rw [hw1]; exact HB0.out)
  have HT1 := Lib.hid (HTW.out.below HB1.out)
  have HV1 : Hid (Blk w1 (w.heap.size + 1) 57 [.int .i64 v1, .int .i64 v2, .string v3]) := Lib.hid (by rw [hw1]; exact HV0.out)
  have HK1 : Hid (Blk w1 w.heap.size 57 [.int .i64 k1, .int .i64 k2, .string k3]) := Lib.hid (by rw [hw1]; exact HK0.out)
  have HV1nb : Hid (∀ b, (Value.slice sa m sc).ownBlock = some b → b = w.heap.size + 1 → False) := Lib.hid (fun b hb e => by have := (HTW.out.arr.lt b hb).2; omega)
  have HK1nb : Hid (∀ b, (Value.slice sa m sc).ownBlock = some b → b ≠ w.heap.size) := Lib.hid (fun b hb e => by have := (HTW.out.arr.lt b hb).2; omega)
  have HH1 : Hid (Blk w1 tb 202 (.slice sa m sc :: [tp, .int .i64 2, .int .i64 (-1), .slice none 0 0, .pointer (some ⟨d, 0, none⟩), mp])) := Lib.hid HT1.out.hd
  have hYt : Hid (¬ Y tb) := Lib.hid (fun hb => (HTW.out.ownY tb hb).2.1 rfl)
  have hYk : Hid (¬ Y w.heap.size) := Lib.hid (fun hb => by have := HTW.out.lt _ (HTW.out.ownY _ hb).1; omega)
  have htl := Lib.hid (h.lt tb h.ownT)
  clear h hA hm2 hsc1 hsc2
  go_enter Try.func120, Try.ntmps120
  go_upto_region 1 with (fail)
  rw [← hw1]
  clear hw1 HB0 HK0 HV0
  have hu := Try.underlying57
  refine RG.region_F (fun W => (Blk W tb 202 (.slice sa m sc :: [tp, .int .i64 2, .int .i64 (-1), .slice none 0 0, .pointer (some ⟨d, 0, none⟩), mp])) ∧ Blk W (w.heap.size + 1) 57 [.int .i64 v1, .int .i64 v2, .string v3]) 10 (by kernel_rfl) ?_
  have hB0 : Below w1.heap.size w1 ({ w1 with drawn := w1.drawn + 1 } : World) := ⟨rfl, rfl, rfl, Nat.le_refl _, fun _ _ => rfl⟩
  generalize ({ w1 with drawn := w1.drawn + 1 } : World) = w5G at hB0 ⊢
  have HB5G := Lib.hid hB0
  have hH5 := Lib.hid (HH1.out.of (hB0.block _ HH1.out.lt))
  have hV5 := Lib.hid (HV1.out.of (hB0.block _ HV1.out.lt))
  have hO5 := Lib.hid ((HT1.out.arr).below hB0)
  have hS0 := And.intro hH5.out hV5.out
  refine RG.takeF 0 (oi := ⟨some 10, _, _, _, _, _⟩) (v := ?_) rfl (by kernel_rfl) (by kernel_rfl) (by kernel_rfl) (by kernel_rfl) (fun _ _ _ h => h) (Or.inl ⟨by rfl, ?hyG_70⟩) hS0 ?restG_70
  case hyG_70 => (intro W hW; have q4 := hW.1.cell 0 _ rfl; have p0 := hW.2.cell 0 _ rfl; have p1 := hW.2.cell 1 _ rfl; have p2 := hW.2.cell 2 _ rfl; go_simp; try with_reducible rfl)
  try simp only [Act.put, List.setIfInBounds_toArray, List.set_cons_zero, List.set_cons_succ]
  refine RG.takeF 1 (oi := ⟨some 11, _, _, _, _, _⟩) (v := ?_) rfl (by kernel_rfl) (by kernel_rfl) (by kernel_rfl) (by kernel_rfl) (fun _ _ _ h => h) (Or.inl ⟨by rfl, ?hyG_81⟩) hS0 ?restG_81
  case hyG_81 => (intro W hW; have q4 := hW.1.cell 0 _ rfl; have p0 := hW.2.cell 0 _ rfl; have p1 := hW.2.cell 1 _ rfl; have p2 := hW.2.cell 2 _ rfl; go_simp; try with_reducible rfl)
  try simp only [Act.put, List.setIfInBounds_toArray, List.set_cons_zero, List.set_cons_succ]
  refine RG.takeF 2 (oi := ⟨some 12, _, _, _, _, _⟩) (v := ?_) rfl (by kernel_rfl) (by kernel_rfl) (by kernel_rfl) (by kernel_rfl) (fun _ _ _ h => h) (Or.inl ⟨by rfl, ?hyG_92⟩) hS0 ?restG_92
  case hyG_92 => (intro W hW; have q4 := hW.1.cell 0 _ rfl; have p0 := hW.2.cell 0 _ rfl; have p1 := hW.2.cell 1 _ rfl; have p2 := hW.2.cell 2 _ rfl; go_simp; try with_reducible rfl)
  try simp only [Act.put, List.setIfInBounds_toArray, List.set_cons_zero, List.set_cons_succ]
  refine RG.takeF 3 (oi := ⟨some 13, _, _, _, _, _⟩) (v := ?_) rfl (by kernel_rfl) (by kernel_rfl) (by kernel_rfl) (by kernel_rfl) (fun _ _ _ h => h) (Or.inl ⟨by rfl, ?hyG_103⟩) hS0 ?restG_103
  case hyG_103 => (intro W hW; have q4 := hW.1.cell 0 _ rfl; have p0 := hW.2.cell 0 _ rfl; have p1 := hW.2.cell 1 _ rfl; have p2 := hW.2.cell 2 _ rfl; go_simp; try with_reducible rfl)
  try simp only [Act.put, List.setIfInBounds_toArray, List.set_cons_zero, List.set_cons_succ]
  refine RG.takeF 4 (oi := ⟨some 14, _, _, _, _, _⟩) (v := ?_) rfl (by kernel_rfl) (by kernel_rfl) (by kernel_rfl) (by kernel_rfl) (fun _ _ _ h => h) (Or.inl ⟨by rfl, ?hyG_114⟩) hS0 ?restG_114
  case hyG_114 => (intro W hW; have q4 := hW.1.cell 0 _ rfl; have p0 := hW.2.cell 0 _ rfl; have p1 := hW.2.cell 1 _ rfl; have p2 := hW.2.cell 2 _ rfl; go_simp; try with_reducible rfl)
  try simp only [Act.put, List.setIfInBounds_toArray, List.set_cons_zero, List.set_cons_succ]
  refine RG.takeF 5 (oi := ⟨some 15, _, _, _, _, _⟩) (v := ?_) rfl (by kernel_rfl) (by kernel_rfl) (by kernel_rfl) (by kernel_rfl) (fun _ _ _ h => h) (Or.inl ⟨by rfl, ?hyG_125⟩) hS0 ?restG_125
  case hyG_125 => (intro W hW; have q4 := hW.1.cell 0 _ rfl; have p0 := hW.2.cell 0 _ rfl; have p1 := hW.2.cell 1 _ rfl; have p2 := hW.2.cell 2 _ rfl; go_simp; try with_reducible rfl)
  try simp only [Act.put, List.setIfInBounds_toArray, List.set_cons_zero, List.set_cons_succ]
  refine RG.oneF 6 (by kernel_rfl) (by decide) ?_
  refine RG.wpOp_plain rfl rfl fun K hK => ?_
  go_simp
  refine hK _ _ ⟨⟨hH5.out.alloc _, hV5.out.alloc _⟩, ?_⟩
  clear hK K
  try simp only [Act.put, List.setIfInBounds_toArray, List.set_cons_zero, List.set_cons_succ]
  obtain ⟨na, nc, w6, r, hH6, hnt, hap⟩ := arr_app hH5.out hO5.out (HA6.out) ⟨v1, v2, v3⟩
  rw [EM.out] at r hap
  have hV6 := hV5.out.of (hnt _ hV5.out.lt (fun e => HV1nb.out _ e rfl))
  refine RG.oneF 7 (by kernel_rfl) (by decide) ?_
  refine RG.wpOp_plain rfl rfl fun K hK => ?_
  refine RG.wp_append_run _ _ 55 55 rfl rfl rfl r ?_
  refine hK _ _ ⟨⟨hH6, hV6⟩, ?_⟩
  clear hK K
  try simp only [Act.put, List.setIfInBounds_toArray, List.set_cons_zero, List.set_cons_succ]
  refine RG.oneF 8 (by kernel_rfl) (by decide) ?_
  refine RG.wpOp_plain rfl rfl fun K hK => ?_
  go_simp
  refine hK _ _ ⟨⟨hH6, hV6⟩, ?_⟩
  clear hK K
  try simp only [Act.put, List.setIfInBounds_toArray, List.set_cons_zero, List.set_cons_succ]
  refine RG.oneF 9 (by kernel_rfl) (by decide) ?_
  refine RG.wpOp_plain rfl rfl fun K hK => ?_
  go_simp
  refine hK _ _ ⟨⟨hH6, hV6⟩, ?_⟩
  clear hK K
  try simp only [Act.put, List.setIfInBounds_toArray, List.set_cons_zero, List.set_cons_succ]
  have c3 := hH6.cell 0 _ rfl
  have z3 := hH6.frozen 0
  refine RG.lastF (by kernel_rfl) (by kernel_rfl) ?_
  refine RG.wpOp_wanted rfl (by rfl) fun K hK => ?_
  go_simp
  refine hK _ _ ?_
  clear hK K
  try simp only [Act.put, List.setIfInBounds_toArray, List.set_cons_zero, List.set_cons_succ]
  have HPG := Lib.hid hap
  clear c3 z3 r hH6 hnt hap hV6 hS0
  have HT5 := Lib.hid (HT1.out.below HB5G.out)
  have HK5 := Lib.hid (HK1.out.of (HB5G.out.block _ HK1.out.lt))
  generalize w6.setCell ⟨tb, 0, none⟩ (Value.slice na (m + 1) nc) = w7 at HPG ⊢
  have HK7 := Lib.hid (HK5.out.of (HPG.out.keep _ HK5.out.lt (by have := htl.out; omega) (fun e => HK1nb.out _ e rfl)))
  have HT7 := Lib.hid (HT5.out.app HPG.out)
  have HC7 : Hid (Chg X w w7) := Lib.hid ((Chg.ofBelow (B := X) (HB1.out.trans (HB5G.out.mono HB1.out.size))).trans (HT5.out.appC HPG.out) (fun b _ h => h))
  have HX7 : Hid (∀ b, (X b ∨ (w5G.heap.size ≤ b ∧ b < w7.heap.size)) → X b ∨ w.heap.size ≤ b) := Lib.hid (fun b hb => hb.imp id (fun h => by have h1 := HB5G.out.size; have h2 := HB1.out.size; omega))
  have c2 := HPG.out.hd.cell 2 _ rfl
  clear hH5 hV5 hO5 HB5G HT5 HPG HK5
  go_upto_region 5 with (fail)
  clear c2
  have BLE : Below w7.heap.size w7 ({ w7 with drawn := w7.drawn + 1 } : World) := ⟨rfl, rfl, rfl, Nat.le_refl _, fun _ _ => rfl⟩
  refine wp_region_held (S := Chg (Y) w7) (by kernel_rfl) ?_
  have hSE : Chg (Y) w7 ({ w7 with drawn := w7.drawn + 1 } : World) := Chg.ofBelow BLE
  generalize ({ w7 with drawn := w7.drawn + 1 } : World) = wE at hSE BLE ⊢
  have q5E : ∀ W, Chg (Y) w7 W → W.cell? ⟨tb, 5, none⟩ = some (.pointer (some ⟨d, 0, none⟩)) := fun W hW => (HT7.out.hd.of (hW.block tb HT7.out.hd.lt hYt.out)).cell 5 _ rfl
  have k0E : ∀ W, Chg (Y) w7 W → W.cell? ⟨w.heap.size, 0, none⟩ = some (.int .i64 k1) := fun W hW => (HK7.out.of (hW.block _ HK7.out.lt hYk.out)).cell 0 _ rfl
  have k1E : ∀ W, Chg (Y) w7 W → W.cell? ⟨w.heap.size, 1, none⟩ = some (.int .i64 k2) := fun W hW => (HK7.out.of (hW.block _ HK7.out.lt hYk.out)).cell 1 _ rfl
  have k2E : ∀ W, Chg (Y) w7 W → W.cell? ⟨w.heap.size, 2, none⟩ = some (.string k3) := fun W hW => (HK7.out.of (hW.block _ HK7.out.lt hYk.out)).cell 2 _ rfl
  refine takeH 0 (oi := ⟨some 25, _, _, _, _, _⟩) (v := ?_) rfl (by kernel_rfl) (by kernel_rfl) (by kernel_rfl) (fun _ _ _ h => h) (Or.inl ⟨by rfl, ?hyE13⟩) hSE ?restE13
  case hyE13 => (intro W hW; (try dsimp only at hW); go_simp; try with_reducible rfl)
  try simp only [Act.put, List.setIfInBounds_toArray, List.set_cons_zero, List.set_cons_succ]
  refine takeH 1 (oi := ⟨some 26, _, _, _, _, _⟩) (v := ?_) rfl (by kernel_rfl) (by kernel_rfl) (by kernel_rfl) (fun _ _ _ h => h) (Or.inl ⟨by rfl, ?hyE14⟩) hSE ?restE14
  case hyE14 => (intro W hW; (try dsimp only at hW); go_simp; try with_reducible rfl)
  try simp only [Act.put, List.setIfInBounds_toArray, List.set_cons_zero, List.set_cons_succ]
  refine takeH 2 (oi := ⟨some 27, _, _, _, _, _⟩) (v := ?_) rfl (by kernel_rfl) (by kernel_rfl) (by kernel_rfl) (fun _ _ _ h => h) (Or.inl ⟨by rfl, ?hyE15⟩) hSE ?restE15
  case hyE15 => (intro W hW; (try dsimp only at hW); go_simp; try with_reducible rfl)
  try simp only [Act.put, List.setIfInBounds_toArray, List.set_cons_zero, List.set_cons_succ]
  refine takeH 3 (oi := ⟨some 28, _, _, _, _, _⟩) (v := ?_) rfl (by kernel_rfl) (by kernel_rfl) (by kernel_rfl) (fun _ _ _ h => h) (Or.inl ⟨by rfl, ?hyE16⟩) hSE ?restE16
  case hyE16 => (intro W hW; (try dsimp only at hW); go_simp; try with_reducible rfl)
  try simp only [Act.put, List.setIfInBounds_toArray, List.set_cons_zero, List.set_cons_succ]
  refine takeH 4 (oi := ⟨some 29, _, _, _, _, _⟩) (v := ?_) rfl (by kernel_rfl) (by kernel_rfl) (by kernel_rfl) (fun _ _ _ h => h) (Or.inl ⟨by rfl, ?hyE17⟩) hSE ?restE17
  case hyE17 => (intro W hW; (try dsimp only at hW); go_simp; try with_reducible rfl)
  try simp only [Act.put, List.setIfInBounds_toArray, List.set_cons_zero, List.set_cons_succ]
  refine one (i := 5) (by kernel_rfl) ?_
  refine wpOp_wanted rfl (by rfl) fun K hK => ?_
  go_simp
  with_reducible refine (HDR.out _ (HT7.out.dict.below BLE)).mono ?_
  rintro e wE18 ⟨rfl, hd, hc⟩
  have SE18 : Chg (Y) w7 wE18 := (Chg.ofBelow BLE).trans hc (fun b _ h => h)
  have HD8 := Lib.hid hd
  clear hd hc
  refine hK _ _ ⟨SE18, ?_⟩
  clear hK K
  try simp only [Act.put, List.setIfInBounds_toArray, List.set_cons_zero, List.set_cons_succ]
  refine wpAnyH_done (by kernel_rfl) ?_ _
  clear q5E k0E k1E k2E
  have HC8 := Lib.hid (SE18)
  generalize wE18 = w8 at HC8 HD8 ⊢
  have HT8 : Hid (THa w8 (fun b => X b ∨ (w5G.heap.size ≤ b ∧ b < w7.heap.size)) tb tp mp (A ++ [⟨v1, v2, v3⟩]) R0 M (.slice na (m + 1) nc) d Y) := Lib.hid { HT7.out with hd := HT7.out.hd.of (HC8.out.block tb HT7.out.hd.lt hYt.out), arr := HT7.out.arr.of (fun g hg => HC8.out.block g (HT7.out.arr.lt g hg).2 (fun h => (HT7.out.ownY g h).2.2 hg)), dict := HD8.out, lt := fun b hb => Nat.lt_of_lt_of_le (HT7.out.lt b hb) HC8.out.size }
  have HCW : Hid (Chg X w w8) := Lib.hid (HC7.out.trans HC8.out (fun b hb h => (HTW.out.ownY b h).1))
  have HI0 : Hid (∃ (f : Nat) (A' : List Val) (R' : Pairs) (X' : Nat → Prop) (av' : Value), THa w8 X' tb tp mp A' R' M av' d Y ∧ (∀ b, X' b → X b ∨ w.heap.size ≤ b) ∧ Chg X w w8 ∧ pull f A' R' = P ∧ R'.length ≤ f ∧ A'.length + R'.length ≤ K) := Lib.hid ⟨_, _, _, _, _, HT8.out, HX7.out, HCW.out, HPU.out, HRL.out, by have h1 := HRL.out; have h2 := HKL.out.2; rw [List.length_append, List.length_singleton]; omega⟩
  clear HT8 HCW HC8 HD8 HT7 HX7 HC7
  cases fr with
  | true =>
    go_wp2
    go_loopw [8] (fun _ wr => Hid (∃ (f : Nat) (A' : List Val) (R' : Pairs) (X' : Nat → Prop) (av' : Value), THa wr X' tb tp mp A' R' M av' d Y ∧ (∀ b, X' b → X b ∨ w.heap.size ≤ b) ∧ Chg X w wr ∧ pull f A' R' = P ∧ R'.length ≤ f ∧ A'.length + R'.length ≤ K)) (fun _ wr => K - lenOf (wr.cell? ⟨tb, 0, none⟩))
    case atStart => exact HI0
    case round =>
      obtain ⟨f, A', R', X', av', hr1, hr2, hr3, hr4, hr5, hr6⟩ := hrel.out
      obtain ⟨sb, scb, hsv, hsc1, hsc2⟩ := hr1.arr.form
      subst hsv
      obtain ⟨q, hq⟩ : ∃ q, A'.length = q := ⟨_, rfl⟩
      have EQ := Lib.hid hq
      have hr1' := hr1
      rw [hq] at hr1'
      have HA := Lib.hid hr1'
      have HXX := Lib.hid hr2
      have HCC := Lib.hid hr3
      have HF := Lib.hid (And.intro hr4 (And.intro hr5 hr6))
      have hqb : q ≤ 1000001 := by have := HKL.out; omega
      have hq0 : (0 : Int) ≤ (q : Int) := by omega
      have hq1 : (q : Int) ≤ 1000001 := by omega
      have HLN : Hid (∀ W, Below wr.heap.size wr W → Calls Try.prog 72 #[.pointer (some ⟨tb, 0, none⟩)] W fun e w' => e = .returned (.int .i64 (q : Nat)) ∧ Below W.heap.size W w') := Lib.hid (fun W hW => tlen_at ((HA.out.below hW).hd.cell 0 _ rfl))
      obtain ⟨⟨x1, x2, x3⟩, hx⟩ : ∃ x, getV R' (intV ((q : Int) + 1)) = x := ⟨_, rfl⟩
      have HXV := Lib.hid hx
      have HGT : Hid (∀ W, Below wr.heap.size wr W → Calls Try.prog 47 #[.pointer (some ⟨d, 0, none⟩), Val.v ⟨2, (q : Int) + 1, Val.e⟩] W fun e w' => e = .returned (Val.v ⟨x1, x2, x3⟩) ∧ Below W.heap.size W w') := Lib.hid (fun W hW => by have := dget_calls (HA.out.below hW).dict (intV ((q : Int) + 1)) (Nat.zero_le _); rw [HXV.out] at this; exact this)
      clear hr1 hr1' hr2 hr3 hr4 hr5 hr6 hq hx hsc1 hsc2 hrel
      go_upto_region 8 with first | (go_at_call 72; go_loud ((with_reducible refine (HLN.out _ (Below.refl _ _)).mono ?_); rintro e wl ⟨rfl, hb⟩; have HBl := Lib.hid hb; clear hb)) | (go_at_call 50; go_loud ((with_reducible refine (ofInt_calls _ _).mono ?_); rintro e wo ⟨rfl, hb⟩; have HBo := Lib.hid (HBl.out.trans (hb.mono HBl.out.size)); clear hb))
      obtain ⟨w2, hw2⟩ : ∃ z, z = wo.alloc (.cells #[.int .i64 2, .int .i64 ((q : Int) + 1), .string Val.e] 57) := ⟨_, rfl⟩
      have HB2 : Hid (Below wr.heap.size wr w2) := Lib.hid (by rw [hw2]; exact HBo.out.alloc HBo.out.size _)
      have HK2 : Hid (Blk w2 wo.heap.size 57 [.int .i64 2, .int .i64 ((q : Int) + 1), .string Val.e]) := Lib.hid (by rw [hw2]; exact Blk.new wo [.int .i64 2, .int .i64 ((q : Int) + 1), .string Val.e] 57)
      have hok : Hid (wr.heap.size ≤ wo.heap.size) := Lib.hid HBo.out.size
      rw [← hw2]
      clear hw2 HBl HBo
      generalize wo.heap.size = kb at HK2 hok ⊢
      have hYk2 : Hid (¬ Y kb) := Lib.hid (fun hb => by have := HA.out.lt _ (HA.out.ownY _ hb).1; have := hok.out; omega)
      have hBF : Below w2.heap.size w2 ({ w2 with drawn := w2.drawn + 1 } : World) := ⟨rfl, rfl, rfl, Nat.le_refl _, fun _ _ => rfl⟩
      refine wp_region_held (S := Below w2.heap.size w2) (by kernel_rfl) ?_
      have hSF := hBF
      generalize ({ w2 with drawn := w2.drawn + 1 } : World) = wF at hSF hBF ⊢
      have hslF := hSF.size
      have q5F : ∀ W, Below w2.heap.size w2 W → W.cell? ⟨tb, 5, none⟩ = some (.pointer (some ⟨d, 0, none⟩)) := fun W hW => (HA.out.below (HB2.out.trans (hW.mono HB2.out.size))).hd.cell 5 _ rfl
      have k0F : ∀ W, Below w2.heap.size w2 W → W.cell? ⟨kb, 0, none⟩ = some (.int .i64 2) := fun W hW => (HK2.out.of (hW.block _ HK2.out.lt)).cell 0 _ rfl
      have k1F : ∀ W, Below w2.heap.size w2 W → W.cell? ⟨kb, 1, none⟩ = some (.int .i64 ((q : Int) + 1)) := fun W hW => (HK2.out.of (hW.block _ HK2.out.lt)).cell 1 _ rfl
      have k2F : ∀ W, Below w2.heap.size w2 W → W.cell? ⟨kb, 2, none⟩ = some (.string Val.e) := fun W hW => (HK2.out.of (hW.block _ HK2.out.lt)).cell 2 _ rfl
      refine takeH 0 (oi := ⟨some 35, _, _, _, _, _⟩) (v := ?_) rfl (by kernel_rfl) (by kernel_rfl) (by kernel_rfl) (fun _ _ _ h => h) (Or.inl ⟨by rfl, ?hyF19⟩) hSF ?restF19
      case hyF19 => (intro W hW; (try dsimp only at hW); go_simp; try with_reducible rfl)
      try simp only [Act.put, List.setIfInBounds_toArray, List.set_cons_zero, List.set_cons_succ]
      refine takeH 1 (oi := ⟨some 36, _, _, _, _, _⟩) (v := ?_) rfl (by kernel_rfl) (by kernel_rfl) (by kernel_rfl) (fun _ _ _ h => h) (Or.inl ⟨by rfl, ?hyF20⟩) hSF ?restF20
      case hyF20 => (intro W hW; (try dsimp only at hW); go_simp; try with_reducible rfl)
      try simp only [Act.put, List.setIfInBounds_toArray, List.set_cons_zero, List.set_cons_succ]
      refine takeH 2 (oi := ⟨some 37, _, _, _, _, _⟩) (v := ?_) rfl (by kernel_rfl) (by kernel_rfl) (by kernel_rfl) (fun _ _ _ h => h) (Or.inl ⟨by rfl, ?hyF21⟩) hSF ?restF21
      case hyF21 => (intro W hW; (try dsimp only at hW); go_simp; try with_reducible rfl)
      try simp only [Act.put, List.setIfInBounds_toArray, List.set_cons_zero, List.set_cons_succ]
      refine takeH 3 (oi := ⟨some 38, _, _, _, _, _⟩) (v := ?_) rfl (by kernel_rfl) (by kernel_rfl) (by kernel_rfl) (fun _ _ _ h => h) (Or.inl ⟨by rfl, ?hyF22⟩) hSF ?restF22
      case hyF22 => (intro W hW; (try dsimp only at hW); go_simp; try with_reducible rfl)
      try simp only [Act.put, List.setIfInBounds_toArray, List.set_cons_zero, List.set_cons_succ]
      refine takeH 4 (oi := ⟨some 39, _, _, _, _, _⟩) (v := ?_) rfl (by kernel_rfl) (by kernel_rfl) (by kernel_rfl) (fun _ _ _ h => h) (Or.inl ⟨by rfl, ?hyF23⟩) hSF ?restF23
      case hyF23 => (intro W hW; (try dsimp only at hW); go_simp; try with_reducible rfl)
      try simp only [Act.put, List.setIfInBounds_toArray, List.set_cons_zero, List.set_cons_succ]
      refine two (i := 5) (j := 6) (by kernel_rfl) ?_ ?_
      · refine wpOp_wanted rfl (by rfl) fun K hK => ?_
        go_simp
        with_reducible refine (HGT.out _ (HB2.out.trans ((hSF).mono HB2.out.size))).mono ?_
        rintro e wF24 ⟨rfl, hb⟩
        have SF24 : Below w2.heap.size w2 wF24 := hSF.trans (hb.mono hSF.size)
        clear hb
        refine hK _ _ ⟨SF24, ?_⟩
        clear hK K
        try simp only [Act.put, List.setIfInBounds_toArray, List.set_cons_zero, List.set_cons_succ]
        refine one (i := 6) (by kernel_rfl) ?_
        refine wpOp_wanted rfl (by rfl) fun K hK => ?_
        go_simp
        have hzF25_6 : w2.heap.size ≤ wF24.heap.size := by have h := SF24.size; omega
        have SF25 : Below w2.heap.size w2 (wF24.alloc (.cells #[.int .i64 0, .int .i64 0, .string ⟨#[]⟩] 57)) := (bel1 SF24 _)
        have BF25_6 : Hid (Blk (wF24.alloc (.cells #[.int .i64 0, .int .i64 0, .string ⟨#[]⟩] 57)) (wF24.heap.size) 57 [.int .i64 0, .int .i64 0, .string ⟨#[]⟩]) := Lib.hid (by have h := Blk.new wF24 [.int .i64 0, .int .i64 0, .string ⟨#[]⟩] 57; exact h)
        refine hK _ _ ⟨SF25, ?_⟩
        clear hK K
        try simp only [Act.put, List.setIfInBounds_toArray, List.set_cons_zero, List.set_cons_succ]
        refine one (i := 7) (by kernel_rfl) ?_
        refine wpOp_wanted rfl (by rfl) fun K hK => ?_
        go_simp
        have SF26 : Below w2.heap.size w2 (wF24.alloc (.cells #[.int .i64 x1, .int .i64 x2, .string x3] 57)) := (bel1 SF24 _)
        have BF26_6 : Hid (Blk (wF24.alloc (.cells #[.int .i64 x1, .int .i64 x2, .string x3] 57)) (wF24.heap.size) 57 [.int .i64 x1, .int .i64 x2, .string x3]) := Lib.hid (by have h := Blk.new wF24 [.int .i64 x1, .int .i64 x2, .string x3] 57; exact h)
        refine hK _ _ ⟨SF26, ?_⟩
        clear hK K
        try simp only [Act.put, List.setIfInBounds_toArray, List.set_cons_zero, List.set_cons_succ]
        refine wpAnyH_done (by kernel_rfl) ?_ _
        clear q5F k0F k1F k2F
        have HB3 : Hid (Below wr.heap.size wr (wF24.alloc (.cells #[.int .i64 x1, .int .i64 x2, .string x3] 57))) := Lib.hid (HB2.out.trans ((SF26).mono HB2.out.size))
        have HK3 := Lib.hid (HK2.out.of ((SF26).block _ HK2.out.lt))
        have HV3 := BF26_6
        have hvb : Hid (wr.heap.size ≤ (wF24.heap.size)) := Lib.hid (by have h1 := HB2.out.size; have h2 := hBF.size; first | omega | (have h3 := (SF26).size; have h4 := HV3.out.lt; simp only [World.heap_alloc] at *; omega))
        generalize (wF24.alloc (.cells #[.int .i64 x1, .int .i64 x2, .string x3] 57)) = w3 at HB3 HK3 HV3 ⊢
        generalize (wF24.heap.size) = vb at HV3 hvb ⊢
        have v0 := HV3.out.cell 0 _ rfl
        by_cases hx0 : x1 = 0
        · subst hx0
          go_wp2
          go_ret
          have hp := pull_stop f (A := A') (R := R') (by rw [EQ.out, HXV.out])
          have hP : (A', R') = P := by rw [← hp]; exact HF.out.1
          rw [← hP]
          have h1 := HA.out.below HB3.out
          have h2 := HXX.out
          have h3 := HCC.out.trans (Chg.ofBelow (B := fun _ => False) HB3.out) (fun b _ h => h.elim)
          first | exact ⟨rfl, X', _, h1, h2, h3⟩ | exact ⟨rfl, X', ⟨_, h1⟩, h2, h3⟩ | exact ⟨rfl, ⟨X', ⟨_, h1⟩, h2⟩, h3⟩
        · have hx1 : (x1 == 0) = false := by simpa using hx0
          have HX0 := Lib.hid hx0
          clear hx0
          have hg := getV_some (L := R') (x := intV ((q : Int) + 1)) (by rw [HXV.out]; exact HX0.out)
          have HDD : Hid (∀ W, DAt W Y d R' M → Calls Try.prog 45 #[.pointer (some ⟨d, 0, none⟩), Val.v ⟨2, (q : Int) + 1, Val.e⟩] W fun e w' => e = .returned (.bool true) ∧ DAt w' Y d (dropA R' (intV ((q : Int) + 1))) M ∧ Chg Y W w') := Lib.hid (fun W hW => by have := ddrop_calls hW (intV ((q : Int) + 1)) (Nat.zero_le _); rw [hg.1] at this; exact this)
          have HDL : Hid ((dropA R' (intV ((q : Int) + 1))).length < R'.length) := Lib.hid (dropA_len hg.2)
          clear hg
          go_upto_region 11 with (fail)
          clear v0
          have BLH : Below w3.heap.size w3 ({ w3 with drawn := w3.drawn + 1 } : World) := ⟨rfl, rfl, rfl, Nat.le_refl _, fun _ _ => rfl⟩
          refine wp_region_held (S := Chg (Y) w3) (by kernel_rfl) ?_
          have hSH : Chg (Y) w3 ({ w3 with drawn := w3.drawn + 1 } : World) := Chg.ofBelow BLH
          generalize ({ w3 with drawn := w3.drawn + 1 } : World) = wH at hSH BLH ⊢
          have q5H : ∀ W, Chg (Y) w3 W → W.cell? ⟨tb, 5, none⟩ = some (.pointer (some ⟨d, 0, none⟩)) := fun W hW => ((HA.out.below HB3.out).hd.of (hW.block tb (HA.out.below HB3.out).hd.lt hYt.out)).cell 5 _ rfl
          have k0H : ∀ W, Chg (Y) w3 W → W.cell? ⟨kb, 0, none⟩ = some (.int .i64 2) := fun W hW => (HK3.out.of (hW.block _ HK3.out.lt hYk2.out)).cell 0 _ rfl
          have k1H : ∀ W, Chg (Y) w3 W → W.cell? ⟨kb, 1, none⟩ = some (.int .i64 ((q : Int) + 1)) := fun W hW => (HK3.out.of (hW.block _ HK3.out.lt hYk2.out)).cell 1 _ rfl
          have k2H : ∀ W, Chg (Y) w3 W → W.cell? ⟨kb, 2, none⟩ = some (.string Val.e) := fun W hW => (HK3.out.of (hW.block _ HK3.out.lt hYk2.out)).cell 2 _ rfl
          refine takeH 0 (oi := ⟨some 45, _, _, _, _, _⟩) (v := ?_) rfl (by kernel_rfl) (by kernel_rfl) (by kernel_rfl) (fun _ _ _ h => h) (Or.inl ⟨by rfl, ?hyH27⟩) hSH ?restH27
          case hyH27 => (intro W hW; (try dsimp only at hW); go_simp; try with_reducible rfl)
          try simp only [Act.put, List.setIfInBounds_toArray, List.set_cons_zero, List.set_cons_succ]
          refine takeH 1 (oi := ⟨some 46, _, _, _, _, _⟩) (v := ?_) rfl (by kernel_rfl) (by kernel_rfl) (by kernel_rfl) (fun _ _ _ h => h) (Or.inl ⟨by rfl, ?hyH28⟩) hSH ?restH28
          case hyH28 => (intro W hW; (try dsimp only at hW); go_simp; try with_reducible rfl)
          try simp only [Act.put, List.setIfInBounds_toArray, List.set_cons_zero, List.set_cons_succ]
          refine takeH 2 (oi := ⟨some 47, _, _, _, _, _⟩) (v := ?_) rfl (by kernel_rfl) (by kernel_rfl) (by kernel_rfl) (fun _ _ _ h => h) (Or.inl ⟨by rfl, ?hyH29⟩) hSH ?restH29
          case hyH29 => (intro W hW; (try dsimp only at hW); go_simp; try with_reducible rfl)
          try simp only [Act.put, List.setIfInBounds_toArray, List.set_cons_zero, List.set_cons_succ]
          refine takeH 3 (oi := ⟨some 48, _, _, _, _, _⟩) (v := ?_) rfl (by kernel_rfl) (by kernel_rfl) (by kernel_rfl) (fun _ _ _ h => h) (Or.inl ⟨by rfl, ?hyH30⟩) hSH ?restH30
          case hyH30 => (intro W hW; (try dsimp only at hW); go_simp; try with_reducible rfl)
          try simp only [Act.put, List.setIfInBounds_toArray, List.set_cons_zero, List.set_cons_succ]
          refine takeH 4 (oi := ⟨some 49, _, _, _, _, _⟩) (v := ?_) rfl (by kernel_rfl) (by kernel_rfl) (by kernel_rfl) (fun _ _ _ h => h) (Or.inl ⟨by rfl, ?hyH31⟩) hSH ?restH31
          case hyH31 => (intro W hW; (try dsimp only at hW); go_simp; try with_reducible rfl)
          try simp only [Act.put, List.setIfInBounds_toArray, List.set_cons_zero, List.set_cons_succ]
          refine one (i := 5) (by kernel_rfl) ?_
          refine wpOp_wanted rfl (by rfl) fun K hK => ?_
          go_simp
          with_reducible refine (HDD.out _ ((HA.out.below HB3.out).dict.below BLH)).mono ?_
          rintro e wH32 ⟨rfl, hd, hc⟩
          have SH32 : Chg (Y) w3 wH32 := (Chg.ofBelow BLH).trans hc (fun b _ h => h)
          have HD9 := Lib.hid hd
          clear hd hc
          refine hK _ _ ⟨SH32, ?_⟩
          clear hK K
          try simp only [Act.put, List.setIfInBounds_toArray, List.set_cons_zero, List.set_cons_succ]
          refine wpAnyH_done (by kernel_rfl) ?_ _
          clear q5H k0H k1H k2H
          have HC9 := Lib.hid (SH32)
          generalize wH32 = w4 at HC9 HD9 ⊢
          have HA3 := Lib.hid (HA.out.below HB3.out)
          have HA4 : Hid (THa w4 X' tb tp mp A' (dropA R' (intV ((q : Int) + 1))) M (.slice sb q scb) d Y) := Lib.hid { HA3.out with hd := HA3.out.hd.of (HC9.out.block tb HA3.out.hd.lt hYt.out), arr := HA3.out.arr.of (fun g hg => HC9.out.block g (HA3.out.arr.lt g hg).2 (fun h => (HA3.out.ownY g h).2.2 hg)), dict := HD9.out, lt := fun b hb => Nat.lt_of_lt_of_le (HA3.out.lt b hb) HC9.out.size }
          have hYv2 : Hid (¬ Y vb) := Lib.hid (fun hb => by have := HA.out.lt _ (HA.out.ownY _ hb).1; have := hvb.out; omega)
          have HV4 := Lib.hid (HV3.out.of (HC9.out.block _ HV3.out.lt hYv2.out))
          have HV4nb : Hid (∀ b, (Value.slice sb q scb).ownBlock = some b → b = vb → False) := Lib.hid (fun b hb e => by have := (HA.out.arr.lt b hb).2; have := hvb.out; omega)
          have HH4 : Hid (Blk w4 tb 202 (.slice sb q scb :: [tp, .int .i64 2, .int .i64 (-1), .slice none 0 0, .pointer (some ⟨d, 0, none⟩), mp])) := Lib.hid HA4.out.hd
          have HAL : Hid (A'.length ≤ 1048576) := Lib.hid (by rw [EQ.out]; omega)
          go_upto_region 12 with (fail)
          have hu := Try.underlying57
          refine RG.region_F (fun W => (Blk W tb 202 (.slice sb q scb :: [tp, .int .i64 2, .int .i64 (-1), .slice none 0 0, .pointer (some ⟨d, 0, none⟩), mp])) ∧ Blk W (vb) 57 [.int .i64 x1, .int .i64 x2, .string x3]) 10 (by kernel_rfl) ?_
          have hB0 : Below w4.heap.size w4 ({ w4 with drawn := w4.drawn + 1 } : World) := ⟨rfl, rfl, rfl, Nat.le_refl _, fun _ _ => rfl⟩
          generalize ({ w4 with drawn := w4.drawn + 1 } : World) = w5J at hB0 ⊢
          have HB5J := Lib.hid hB0
          have hH5 := Lib.hid (HH4.out.of (hB0.block _ HH4.out.lt))
          have hV5 := Lib.hid (HV4.out.of (hB0.block _ HV4.out.lt))
          have hO5 := Lib.hid ((HA4.out.arr).below hB0)
          have hS0 := And.intro hH5.out hV5.out
          refine RG.takeF 0 (oi := ⟨some 51, _, _, _, _, _⟩) (v := ?_) rfl (by kernel_rfl) (by kernel_rfl) (by kernel_rfl) (by kernel_rfl) (fun _ _ _ h => h) (Or.inl ⟨by rfl, ?hyJ_330⟩) hS0 ?restJ_330
          case hyJ_330 => (intro W hW; have q4 := hW.1.cell 0 _ rfl; have p0 := hW.2.cell 0 _ rfl; have p1 := hW.2.cell 1 _ rfl; have p2 := hW.2.cell 2 _ rfl; go_simp; try with_reducible rfl)
          try simp only [Act.put, List.setIfInBounds_toArray, List.set_cons_zero, List.set_cons_succ]
          refine RG.takeF 1 (oi := ⟨some 52, _, _, _, _, _⟩) (v := ?_) rfl (by kernel_rfl) (by kernel_rfl) (by kernel_rfl) (by kernel_rfl) (fun _ _ _ h => h) (Or.inl ⟨by rfl, ?hyJ_341⟩) hS0 ?restJ_341
          case hyJ_341 => (intro W hW; have q4 := hW.1.cell 0 _ rfl; have p0 := hW.2.cell 0 _ rfl; have p1 := hW.2.cell 1 _ rfl; have p2 := hW.2.cell 2 _ rfl; go_simp; try with_reducible rfl)
          try simp only [Act.put, List.setIfInBounds_toArray, List.set_cons_zero, List.set_cons_succ]
          refine RG.takeF 2 (oi := ⟨some 53, _, _, _, _, _⟩) (v := ?_) rfl (by kernel_rfl) (by kernel_rfl) (by kernel_rfl) (by kernel_rfl) (fun _ _ _ h => h) (Or.inl ⟨by rfl, ?hyJ_352⟩) hS0 ?restJ_352
          case hyJ_352 => (intro W hW; have q4 := hW.1.cell 0 _ rfl; have p0 := hW.2.cell 0 _ rfl; have p1 := hW.2.cell 1 _ rfl; have p2 := hW.2.cell 2 _ rfl; go_simp; try with_reducible rfl)
          try simp only [Act.put, List.setIfInBounds_toArray, List.set_cons_zero, List.set_cons_succ]
          refine RG.takeF 3 (oi := ⟨some 54, _, _, _, _, _⟩) (v := ?_) rfl (by kernel_rfl) (by kernel_rfl) (by kernel_rfl) (by kernel_rfl) (fun _ _ _ h => h) (Or.inl ⟨by rfl, ?hyJ_363⟩) hS0 ?restJ_363
          case hyJ_363 => (intro W hW; have q4 := hW.1.cell 0 _ rfl; have p0 := hW.2.cell 0 _ rfl; have p1 := hW.2.cell 1 _ rfl; have p2 := hW.2.cell 2 _ rfl; go_simp; try with_reducible rfl)
          try simp only [Act.put, List.setIfInBounds_toArray, List.set_cons_zero, List.set_cons_succ]
          refine RG.takeF 4 (oi := ⟨some 55, _, _, _, _, _⟩) (v := ?_) rfl (by kernel_rfl) (by kernel_rfl) (by kernel_rfl) (by kernel_rfl) (fun _ _ _ h => h) (Or.inl ⟨by rfl, ?hyJ_374⟩) hS0 ?restJ_374
          case hyJ_374 => (intro W hW; have q4 := hW.1.cell 0 _ rfl; have p0 := hW.2.cell 0 _ rfl; have p1 := hW.2.cell 1 _ rfl; have p2 := hW.2.cell 2 _ rfl; go_simp; try with_reducible rfl)
          try simp only [Act.put, List.setIfInBounds_toArray, List.set_cons_zero, List.set_cons_succ]
          refine RG.takeF 5 (oi := ⟨some 56, _, _, _, _, _⟩) (v := ?_) rfl (by kernel_rfl) (by kernel_rfl) (by kernel_rfl) (by kernel_rfl) (fun _ _ _ h => h) (Or.inl ⟨by rfl, ?hyJ_385⟩) hS0 ?restJ_385
          case hyJ_385 => (intro W hW; have q4 := hW.1.cell 0 _ rfl; have p0 := hW.2.cell 0 _ rfl; have p1 := hW.2.cell 1 _ rfl; have p2 := hW.2.cell 2 _ rfl; go_simp; try with_reducible rfl)
          try simp only [Act.put, List.setIfInBounds_toArray, List.set_cons_zero, List.set_cons_succ]
          refine RG.oneF 6 (by kernel_rfl) (by decide) ?_
          refine RG.wpOp_plain rfl rfl fun K hK => ?_
          go_simp
          refine hK _ _ ⟨⟨hH5.out.alloc _, hV5.out.alloc _⟩, ?_⟩
          clear hK K
          try simp only [Act.put, List.setIfInBounds_toArray, List.set_cons_zero, List.set_cons_succ]
          obtain ⟨na, nc, w6, r, hH6, hnt, hap⟩ := arr_app hH5.out hO5.out (HAL.out) ⟨x1, x2, x3⟩
          rw [EQ.out] at r hap
          have hV6 := hV5.out.of (hnt _ hV5.out.lt (fun e => HV4nb.out _ e rfl))
          refine RG.oneF 7 (by kernel_rfl) (by decide) ?_
          refine RG.wpOp_plain rfl rfl fun K hK => ?_
          refine RG.wp_append_run _ _ 55 55 rfl rfl rfl r ?_
          refine hK _ _ ⟨⟨hH6, hV6⟩, ?_⟩
          clear hK K
          try simp only [Act.put, List.setIfInBounds_toArray, List.set_cons_zero, List.set_cons_succ]
          refine RG.oneF 8 (by kernel_rfl) (by decide) ?_
          refine RG.wpOp_plain rfl rfl fun K hK => ?_
          go_simp
          refine hK _ _ ⟨⟨hH6, hV6⟩, ?_⟩
          clear hK K
          try simp only [Act.put, List.setIfInBounds_toArray, List.set_cons_zero, List.set_cons_succ]
          refine RG.oneF 9 (by kernel_rfl) (by decide) ?_
          refine RG.wpOp_plain rfl rfl fun K hK => ?_
          go_simp
          refine hK _ _ ⟨⟨hH6, hV6⟩, ?_⟩
          clear hK K
          try simp only [Act.put, List.setIfInBounds_toArray, List.set_cons_zero, List.set_cons_succ]
          have c3 := hH6.cell 0 _ rfl
          have z3 := hH6.frozen 0
          refine RG.lastF (by kernel_rfl) (by kernel_rfl) ?_
          refine RG.wpOp_wanted rfl (by rfl) fun K hK => ?_
          go_simp
          refine hK _ _ ?_
          clear hK K
          try simp only [Act.put, List.setIfInBounds_toArray, List.set_cons_zero, List.set_cons_succ]
          have HPJ := Lib.hid hap
          clear c3 z3 r hH6 hnt hap hV6 hS0
          have HT5 := Lib.hid (HA4.out.below HB5J.out)
          generalize w6.setCell ⟨tb, 0, none⟩ (Value.slice na (q + 1) nc) = w7 at HPJ ⊢
          have HT7' := Lib.hid (HT5.out.app HPJ.out)
          have hc7 := HPJ.out.hd.cell 0 _ rfl
          have hcr := HA.out.hd.cell 0 _ rfl
          clear hH5 hV5 hO5
          have HREL : Hid (∃ (f : Nat) (A' : List Val) (R' : Pairs) (X' : Nat → Prop) (av' : Value), THa w7 X' tb tp mp A' R' M av' d Y ∧ (∀ b, X' b → X b ∨ w.heap.size ≤ b) ∧ Chg X w w7 ∧ pull f A' R' = P ∧ R'.length ≤ f ∧ A'.length + R'.length ≤ K) := by
            obtain ⟨f', rfl⟩ : ∃ f', f = f' + 1 := ⟨f - 1, by have h1 := HF.out.2.1; have h2 := HDL.out; omega⟩
            have hp := pull_go f' (A := A') (R := R') (by rw [EQ.out, HXV.out]; exact HX0.out)
            rw [EQ.out, HXV.out] at hp
            refine Lib.hid ⟨f', _, _, _, _, HT7'.out, fun b hb => ?_, ?_, by rw [← hp]; exact HF.out.1, by have h1 := HF.out.2.1; have h2 := HDL.out; omega, by have h1 := HF.out.2.2; have h2 := HDL.out; rw [List.length_append, List.length_singleton]; omega⟩
            · rcases hb with hb | hb
              · exact HXX.out b hb
              · have h1 := HCC.out.size; have h2 := HB3.out.size; have h3 := HC9.out.size; have h4 := HB5J.out.size; exact .inr (by omega)
            · have c1 : Chg X w w3 := HCC.out.trans (Chg.ofBelow (B := fun _ => False) HB3.out) (fun b _ h => h.elim)
              have c2 : Chg X w w4 := c1.trans HC9.out (fun b hb h => (HTW.out.ownY b h).1)
              have c3 : Chg X w w5J := c2.trans (Chg.ofBelow (B := fun _ => False) HB5J.out) (fun b _ h => h.elim)
              exact c3.trans (HT5.out.appC HPJ.out) (fun b hb h => Or.elim (HXX.out b h) id (fun h2 => absurd h2 (by omega)))
          go_roundw
          case rel => first | exact HREL | ((repeat apply Exists.intro); exact ⟨HREL, rfl⟩)
          case measure =>
            rw [hc7, hcr]
            show K - (q + 1) < K - q
            have h1 := HF.out.2.2; have h2 := HDL.out; have h3 := EQ.out
            omega
      · refine wpOp_wanted rfl (by rfl) fun K hK => ?_
        go_simp
        have hzF39_6 : w2.heap.size ≤ wF.heap.size := by have h := hSF.size; omega
        have SF39 : Below w2.heap.size w2 (wF.alloc (.cells #[.int .i64 0, .int .i64 0, .string ⟨#[]⟩] 57)) := (bel1 hSF _)
        have BF39_6 : Hid (Blk (wF.alloc (.cells #[.int .i64 0, .int .i64 0, .string ⟨#[]⟩] 57)) (wF.heap.size) 57 [.int .i64 0, .int .i64 0, .string ⟨#[]⟩]) := Lib.hid (by have h := Blk.new wF [.int .i64 0, .int .i64 0, .string ⟨#[]⟩] 57; exact h)
        refine hK _ _ ⟨SF39, ?_⟩
        clear hK K
        try simp only [Act.put, List.setIfInBounds_toArray, List.set_cons_zero, List.set_cons_succ]
        refine one (i := 5) (by kernel_rfl) ?_
        refine wpOp_wanted rfl (by rfl) fun K hK => ?_
        go_simp
        with_reducible refine (HGT.out _ (HB2.out.trans ((SF39).mono HB2.out.size))).mono ?_
        rintro e wF40 ⟨rfl, hb⟩
        have SF40 : Below w2.heap.size w2 wF40 := SF39.trans (hb.mono SF39.size)
        have BF40_6 := Lib.hid (BF39_6.out.of (hb.block _ BF39_6.out.lt))
        clear hb
        refine hK _ _ ⟨SF40, ?_⟩
        clear hK K
        try simp only [Act.put, List.setIfInBounds_toArray, List.set_cons_zero, List.set_cons_succ]
        refine one (i := 7) (by kernel_rfl) ?_
        refine wpOp_wanted rfl (by rfl) fun K hK => ?_
        have kcF410 := BF40_6.out.cell 0 _ rfl
        have kzF410 := BF40_6.out.frozen 0
        have kcF411 := BF40_6.out.cell 1 _ rfl
        have kzF411 := BF40_6.out.frozen 1
        have kcF412 := BF40_6.out.cell 2 _ rfl
        have kzF412 := BF40_6.out.frozen 2
        go_simp
        clear kcF410 kzF410 kcF411 kzF411 kcF412 kzF412
        have SF41 : Below w2.heap.size w2 (((wF40.setCell ⟨(wF.heap.size), 0, none⟩ (.int .i64 x1)).setCell ⟨(wF.heap.size), 1, none⟩ (.int .i64 x2)).setCell ⟨(wF.heap.size), 2, none⟩ (.string x3)) := ((((((SF40).setCell hzF39_6 (.int .i64 x1))).setCell hzF39_6 (.int .i64 x2))).setCell hzF39_6 (.string x3))
        have BF41_6 : Hid (Blk (((wF40.setCell ⟨(wF.heap.size), 0, none⟩ (.int .i64 x1)).setCell ⟨(wF.heap.size), 1, none⟩ (.int .i64 x2)).setCell ⟨(wF.heap.size), 2, none⟩ (.string x3)) (wF.heap.size) 57 [.int .i64 x1, .int .i64 x2, .string x3]) := Lib.hid (((((((BF40_6.out).setSame 0 (.int .i64 x1))).setSame 1 (.int .i64 x2))).setSame 2 (.string x3)))
        refine hK _ _ ⟨SF41, ?_⟩
        clear hK K
        try simp only [Act.put, List.setIfInBounds_toArray, List.set_cons_zero, List.set_cons_succ]
        refine wpAnyH_done (by kernel_rfl) ?_ _
        clear q5F k0F k1F k2F
        have HB3 : Hid (Below wr.heap.size wr (((wF40.setCell ⟨(wF.heap.size), 0, none⟩ (.int .i64 x1)).setCell ⟨(wF.heap.size), 1, none⟩ (.int .i64 x2)).setCell ⟨(wF.heap.size), 2, none⟩ (.string x3))) := Lib.hid (HB2.out.trans ((SF41).mono HB2.out.size))
        have HK3 := Lib.hid (HK2.out.of ((SF41).block _ HK2.out.lt))
        have HV3 := BF41_6
        have hvb : Hid (wr.heap.size ≤ (wF.heap.size)) := Lib.hid (by have h1 := HB2.out.size; have h2 := hBF.size; first | omega | (have h3 := (SF41).size; have h4 := HV3.out.lt; simp only [World.heap_alloc] at *; omega))
        generalize (((wF40.setCell ⟨(wF.heap.size), 0, none⟩ (.int .i64 x1)).setCell ⟨(wF.heap.size), 1, none⟩ (.int .i64 x2)).setCell ⟨(wF.heap.size), 2, none⟩ (.string x3)) = w3 at HB3 HK3 HV3 ⊢
        generalize (wF.heap.size) = vb at HV3 hvb ⊢
        have v0 := HV3.out.cell 0 _ rfl
        by_cases hx0 : x1 = 0
        · subst hx0
          go_wp2
          go_ret
          have hp := pull_stop f (A := A') (R := R') (by rw [EQ.out, HXV.out])
          have hP : (A', R') = P := by rw [← hp]; exact HF.out.1
          rw [← hP]
          have h1 := HA.out.below HB3.out
          have h2 := HXX.out
          have h3 := HCC.out.trans (Chg.ofBelow (B := fun _ => False) HB3.out) (fun b _ h => h.elim)
          first | exact ⟨rfl, X', _, h1, h2, h3⟩ | exact ⟨rfl, X', ⟨_, h1⟩, h2, h3⟩ | exact ⟨rfl, ⟨X', ⟨_, h1⟩, h2⟩, h3⟩
        · have hx1 : (x1 == 0) = false := by simpa using hx0
          have HX0 := Lib.hid hx0
          clear hx0
          have hg := getV_some (L := R') (x := intV ((q : Int) + 1)) (by rw [HXV.out]; exact HX0.out)
          have HDD : Hid (∀ W, DAt W Y d R' M → Calls Try.prog 45 #[.pointer (some ⟨d, 0, none⟩), Val.v ⟨2, (q : Int) + 1, Val.e⟩] W fun e w' => e = .returned (.bool true) ∧ DAt w' Y d (dropA R' (intV ((q : Int) + 1))) M ∧ Chg Y W w') := Lib.hid (fun W hW => by have := ddrop_calls hW (intV ((q : Int) + 1)) (Nat.zero_le _); rw [hg.1] at this; exact this)
          have HDL : Hid ((dropA R' (intV ((q : Int) + 1))).length < R'.length) := Lib.hid (dropA_len hg.2)
          clear hg
          go_upto_region 11 with (fail)
          clear v0
          have BLH : Below w3.heap.size w3 ({ w3 with drawn := w3.drawn + 1 } : World) := ⟨rfl, rfl, rfl, Nat.le_refl _, fun _ _ => rfl⟩
          refine wp_region_held (S := Chg (Y) w3) (by kernel_rfl) ?_
          have hSH : Chg (Y) w3 ({ w3 with drawn := w3.drawn + 1 } : World) := Chg.ofBelow BLH
          generalize ({ w3 with drawn := w3.drawn + 1 } : World) = wH at hSH BLH ⊢
          have q5H : ∀ W, Chg (Y) w3 W → W.cell? ⟨tb, 5, none⟩ = some (.pointer (some ⟨d, 0, none⟩)) := fun W hW => ((HA.out.below HB3.out).hd.of (hW.block tb (HA.out.below HB3.out).hd.lt hYt.out)).cell 5 _ rfl
          have k0H : ∀ W, Chg (Y) w3 W → W.cell? ⟨kb, 0, none⟩ = some (.int .i64 2) := fun W hW => (HK3.out.of (hW.block _ HK3.out.lt hYk2.out)).cell 0 _ rfl
          have k1H : ∀ W, Chg (Y) w3 W → W.cell? ⟨kb, 1, none⟩ = some (.int .i64 ((q : Int) + 1)) := fun W hW => (HK3.out.of (hW.block _ HK3.out.lt hYk2.out)).cell 1 _ rfl
          have k2H : ∀ W, Chg (Y) w3 W → W.cell? ⟨kb, 2, none⟩ = some (.string Val.e) := fun W hW => (HK3.out.of (hW.block _ HK3.out.lt hYk2.out)).cell 2 _ rfl
          refine takeH 0 (oi := ⟨some 45, _, _, _, _, _⟩) (v := ?_) rfl (by kernel_rfl) (by kernel_rfl) (by kernel_rfl) (fun _ _ _ h => h) (Or.inl ⟨by rfl, ?hyH42⟩) hSH ?restH42
          case hyH42 => (intro W hW; (try dsimp only at hW); go_simp; try with_reducible rfl)
          try simp only [Act.put, List.setIfInBounds_toArray, List.set_cons_zero, List.set_cons_succ]
          refine takeH 1 (oi := ⟨some 46, _, _, _, _, _⟩) (v := ?_) rfl (by kernel_rfl) (by kernel_rfl) (by kernel_rfl) (fun _ _ _ h => h) (Or.inl ⟨by rfl, ?hyH43⟩) hSH ?restH43
          case hyH43 => (intro W hW; (try dsimp only at hW); go_simp; try with_reducible rfl)
          try simp only [Act.put, List.setIfInBounds_toArray, List.set_cons_zero, List.set_cons_succ]
          refine takeH 2 (oi := ⟨some 47, _, _, _, _, _⟩) (v := ?_) rfl (by kernel_rfl) (by kernel_rfl) (by kernel_rfl) (fun _ _ _ h => h) (Or.inl ⟨by rfl, ?hyH44⟩) hSH ?restH44
          case hyH44 => (intro W hW; (try dsimp only at hW); go_simp; try with_reducible rfl)
          try simp only [Act.put, List.setIfInBounds_toArray, List.set_cons_zero, List.set_cons_succ]
          refine takeH 3 (oi := ⟨some 48, _, _, _, _, _⟩) (v := ?_) rfl (by kernel_rfl) (by kernel_rfl) (by kernel_rfl) (fun _ _ _ h => h) (Or.inl ⟨by rfl, ?hyH45⟩) hSH ?restH45
          case hyH45 => (intro W hW; (try dsimp only at hW); go_simp; try with_reducible rfl)
          try simp only [Act.put, List.setIfInBounds_toArray, List.set_cons_zero, List.set_cons_succ]
          refine takeH 4 (oi := ⟨some 49, _, _, _, _, _⟩) (v := ?_) rfl (by kernel_rfl) (by kernel_rfl) (by kernel_rfl) (fun _ _ _ h => h) (Or.inl ⟨by rfl, ?hyH46⟩) hSH ?restH46
          case hyH46 => (intro W hW; (try dsimp only at hW); go_simp; try with_reducible rfl)
          try simp only [Act.put, List.setIfInBounds_toArray, List.set_cons_zero, List.set_cons_succ]
          refine one (i := 5) (by kernel_rfl) ?_
          refine wpOp_wanted rfl (by rfl) fun K hK => ?_
          go_simp
          with_reducible refine (HDD.out _ ((HA.out.below HB3.out).dict.below BLH)).mono ?_
          rintro e wH47 ⟨rfl, hd, hc⟩
          have SH47 : Chg (Y) w3 wH47 := (Chg.ofBelow BLH).trans hc (fun b _ h => h)
          have HD9 := Lib.hid hd
          clear hd hc
          refine hK _ _ ⟨SH47, ?_⟩
          clear hK K
          try simp only [Act.put, List.setIfInBounds_toArray, List.set_cons_zero, List.set_cons_succ]
          refine wpAnyH_done (by kernel_rfl) ?_ _
          clear q5H k0H k1H k2H
          have HC9 := Lib.hid (SH47)
          generalize wH47 = w4 at HC9 HD9 ⊢
          have HA3 := Lib.hid (HA.out.below HB3.out)
          have HA4 : Hid (THa w4 X' tb tp mp A' (dropA R' (intV ((q : Int) + 1))) M (.slice sb q scb) d Y) := Lib.hid { HA3.out with hd := HA3.out.hd.of (HC9.out.block tb HA3.out.hd.lt hYt.out), arr := HA3.out.arr.of (fun g hg => HC9.out.block g (HA3.out.arr.lt g hg).2 (fun h => (HA3.out.ownY g h).2.2 hg)), dict := HD9.out, lt := fun b hb => Nat.lt_of_lt_of_le (HA3.out.lt b hb) HC9.out.size }
          have hYv2 : Hid (¬ Y vb) := Lib.hid (fun hb => by have := HA.out.lt _ (HA.out.ownY _ hb).1; have := hvb.out; omega)
          have HV4 := Lib.hid (HV3.out.of (HC9.out.block _ HV3.out.lt hYv2.out))
          have HV4nb : Hid (∀ b, (Value.slice sb q scb).ownBlock = some b → b = vb → False) := Lib.hid (fun b hb e => by have := (HA.out.arr.lt b hb).2; have := hvb.out; omega)
          have HH4 : Hid (Blk w4 tb 202 (.slice sb q scb :: [tp, .int .i64 2, .int .i64 (-1), .slice none 0 0, .pointer (some ⟨d, 0, none⟩), mp])) := Lib.hid HA4.out.hd
          have HAL : Hid (A'.length ≤ 1048576) := Lib.hid (by rw [EQ.out]; omega)
          go_upto_region 12 with (fail)
          have hu := Try.underlying57
          refine RG.region_F (fun W => (Blk W tb 202 (.slice sb q scb :: [tp, .int .i64 2, .int .i64 (-1), .slice none 0 0, .pointer (some ⟨d, 0, none⟩), mp])) ∧ Blk W (vb) 57 [.int .i64 x1, .int .i64 x2, .string x3]) 10 (by kernel_rfl) ?_
          have hB0 : Below w4.heap.size w4 ({ w4 with drawn := w4.drawn + 1 } : World) := ⟨rfl, rfl, rfl, Nat.le_refl _, fun _ _ => rfl⟩
          generalize ({ w4 with drawn := w4.drawn + 1 } : World) = w5J at hB0 ⊢
          have HB5J := Lib.hid hB0
          have hH5 := Lib.hid (HH4.out.of (hB0.block _ HH4.out.lt))
          have hV5 := Lib.hid (HV4.out.of (hB0.block _ HV4.out.lt))
          have hO5 := Lib.hid ((HA4.out.arr).below hB0)
          have hS0 := And.intro hH5.out hV5.out
          refine RG.takeF 0 (oi := ⟨some 51, _, _, _, _, _⟩) (v := ?_) rfl (by kernel_rfl) (by kernel_rfl) (by kernel_rfl) (by kernel_rfl) (fun _ _ _ h => h) (Or.inl ⟨by rfl, ?hyJ_480⟩) hS0 ?restJ_480
          case hyJ_480 => (intro W hW; have q4 := hW.1.cell 0 _ rfl; have p0 := hW.2.cell 0 _ rfl; have p1 := hW.2.cell 1 _ rfl; have p2 := hW.2.cell 2 _ rfl; go_simp; try with_reducible rfl)
          try simp only [Act.put, List.setIfInBounds_toArray, List.set_cons_zero, List.set_cons_succ]
          refine RG.takeF 1 (oi := ⟨some 52, _, _, _, _, _⟩) (v := ?_) rfl (by kernel_rfl) (by kernel_rfl) (by kernel_rfl) (by kernel_rfl) (fun _ _ _ h => h) (Or.inl ⟨by rfl, ?hyJ_491⟩) hS0 ?restJ_491
          case hyJ_491 => (intro W hW; have q4 := hW.1.cell 0 _ rfl; have p0 := hW.2.cell 0 _ rfl; have p1 := hW.2.cell 1 _ rfl; have p2 := hW.2.cell 2 _ rfl; go_simp; try with_reducible rfl)
          try simp only [Act.put, List.setIfInBounds_toArray, List.set_cons_zero, List.set_cons_succ]
          refine RG.takeF 2 (oi := ⟨some 53, _, _, _, _, _⟩) (v := ?_) rfl (by kernel_rfl) (by kernel_rfl) (by kernel_rfl) (by kernel_rfl) (fun _ _ _ h => h) (Or.inl ⟨by rfl, ?hyJ_502⟩) hS0 ?restJ_502
          case hyJ_502 => (intro W hW; have q4 := hW.1.cell 0 _ rfl; have p0 := hW.2.cell 0 _ rfl; have p1 := hW.2.cell 1 _ rfl; have p2 := hW.2.cell 2 _ rfl; go_simp; try with_reducible rfl)
          try simp only [Act.put, List.setIfInBounds_toArray, List.set_cons_zero, List.set_cons_succ]
          refine RG.takeF 3 (oi := ⟨some 54, _, _, _, _, _⟩) (v := ?_) rfl (by kernel_rfl) (by kernel_rfl) (by kernel_rfl) (by kernel_rfl) (fun _ _ _ h => h) (Or.inl ⟨by rfl, ?hyJ_513⟩) hS0 ?restJ_513
          case hyJ_513 => (intro W hW; have q4 := hW.1.cell 0 _ rfl; have p0 := hW.2.cell 0 _ rfl; have p1 := hW.2.cell 1 _ rfl; have p2 := hW.2.cell 2 _ rfl; go_simp; try with_reducible rfl)
          try simp only [Act.put, List.setIfInBounds_toArray, List.set_cons_zero, List.set_cons_succ]
          refine RG.takeF 4 (oi := ⟨some 55, _, _, _, _, _⟩) (v := ?_) rfl (by kernel_rfl) (by kernel_rfl) (by kernel_rfl) (by kernel_rfl) (fun _ _ _ h => h) (Or.inl ⟨by rfl, ?hyJ_524⟩) hS0 ?restJ_524
          case hyJ_524 => (intro W hW; have q4 := hW.1.cell 0 _ rfl; have p0 := hW.2.cell 0 _ rfl; have p1 := hW.2.cell 1 _ rfl; have p2 := hW.2.cell 2 _ rfl; go_simp; try with_reducible rfl)
          try simp only [Act.put, List.setIfInBounds_toArray, List.set_cons_zero, List.set_cons_succ]
          refine RG.takeF 5 (oi := ⟨some 56, _, _, _, _, _⟩) (v := ?_) rfl (by kernel_rfl) (by kernel_rfl) (by kernel_rfl) (by kernel_rfl) (fun _ _ _ h => h) (Or.inl ⟨by rfl, ?hyJ_535⟩) hS0 ?restJ_535
          case hyJ_535 => (intro W hW; have q4 := hW.1.cell 0 _ rfl; have p0 := hW.2.cell 0 _ rfl; have p1 := hW.2.cell 1 _ rfl; have p2 := hW.2.cell 2 _ rfl; go_simp; try with_reducible rfl)
          try simp only [Act.put, List.setIfInBounds_toArray, List.set_cons_zero, List.set_cons_succ]
          refine RG.oneF 6 (by kernel_rfl) (by decide) ?_
          refine RG.wpOp_plain rfl rfl fun K hK => ?_
          go_simp
          refine hK _ _ ⟨⟨hH5.out.alloc _, hV5.out.alloc _⟩, ?_⟩
          clear hK K
          try simp only [Act.put, List.setIfInBounds_toArray, List.set_cons_zero, List.set_cons_succ]
          obtain ⟨na, nc, w6, r, hH6, hnt, hap⟩ := arr_app hH5.out hO5.out (HAL.out) ⟨x1, x2, x3⟩
          rw [EQ.out] at r hap
          have hV6 := hV5.out.of (hnt _ hV5.out.lt (fun e => HV4nb.out _ e rfl))
          refine RG.oneF 7 (by kernel_rfl) (by decide) ?_
          refine RG.wpOp_plain rfl rfl fun K hK => ?_
          refine RG.wp_append_run _ _ 55 55 rfl rfl rfl r ?_
          refine hK _ _ ⟨⟨hH6, hV6⟩, ?_⟩
          clear hK K
          try simp only [Act.put, List.setIfInBounds_toArray, List.set_cons_zero, List.set_cons_succ]
          refine RG.oneF 8 (by kernel_rfl) (by decide) ?_
          refine RG.wpOp_plain rfl rfl fun K hK => ?_
          go_simp
          refine hK _ _ ⟨⟨hH6, hV6⟩, ?_⟩
          clear hK K
          try simp only [Act.put, List.setIfInBounds_toArray, List.set_cons_zero, List.set_cons_succ]
          refine RG.oneF 9 (by kernel_rfl) (by decide) ?_
          refine RG.wpOp_plain rfl rfl fun K hK => ?_
          go_simp
          refine hK _ _ ⟨⟨hH6, hV6⟩, ?_⟩
          clear hK K
          try simp only [Act.put, List.setIfInBounds_toArray, List.set_cons_zero, List.set_cons_succ]
          have c3 := hH6.cell 0 _ rfl
          have z3 := hH6.frozen 0
          refine RG.lastF (by kernel_rfl) (by kernel_rfl) ?_
          refine RG.wpOp_wanted rfl (by rfl) fun K hK => ?_
          go_simp
          refine hK _ _ ?_
          clear hK K
          try simp only [Act.put, List.setIfInBounds_toArray, List.set_cons_zero, List.set_cons_succ]
          have HPJ := Lib.hid hap
          clear c3 z3 r hH6 hnt hap hV6 hS0
          have HT5 := Lib.hid (HA4.out.below HB5J.out)
          generalize w6.setCell ⟨tb, 0, none⟩ (Value.slice na (q + 1) nc) = w7 at HPJ ⊢
          have HT7' := Lib.hid (HT5.out.app HPJ.out)
          have hc7 := HPJ.out.hd.cell 0 _ rfl
          have hcr := HA.out.hd.cell 0 _ rfl
          clear hH5 hV5 hO5
          have HREL : Hid (∃ (f : Nat) (A' : List Val) (R' : Pairs) (X' : Nat → Prop) (av' : Value), THa w7 X' tb tp mp A' R' M av' d Y ∧ (∀ b, X' b → X b ∨ w.heap.size ≤ b) ∧ Chg X w w7 ∧ pull f A' R' = P ∧ R'.length ≤ f ∧ A'.length + R'.length ≤ K) := by
            obtain ⟨f', rfl⟩ : ∃ f', f = f' + 1 := ⟨f - 1, by have h1 := HF.out.2.1; have h2 := HDL.out; omega⟩
            have hp := pull_go f' (A := A') (R := R') (by rw [EQ.out, HXV.out]; exact HX0.out)
            rw [EQ.out, HXV.out] at hp
            refine Lib.hid ⟨f', _, _, _, _, HT7'.out, fun b hb => ?_, ?_, by rw [← hp]; exact HF.out.1, by have h1 := HF.out.2.1; have h2 := HDL.out; omega, by have h1 := HF.out.2.2; have h2 := HDL.out; rw [List.length_append, List.length_singleton]; omega⟩
            · rcases hb with hb | hb
              · exact HXX.out b hb
              · have h1 := HCC.out.size; have h2 := HB3.out.size; have h3 := HC9.out.size; have h4 := HB5J.out.size; exact .inr (by omega)
            · have c1 : Chg X w w3 := HCC.out.trans (Chg.ofBelow (B := fun _ => False) HB3.out) (fun b _ h => h.elim)
              have c2 : Chg X w w4 := c1.trans HC9.out (fun b hb h => (HTW.out.ownY b h).1)
              have c3 : Chg X w w5J := c2.trans (Chg.ofBelow (B := fun _ => False) HB5J.out) (fun b _ h => h.elim)
              exact c3.trans (HT5.out.appC HPJ.out) (fun b hb h => Or.elim (HXX.out b h) id (fun h2 => absurd h2 (by omega)))
          go_roundw
          case rel => first | exact HREL | ((repeat apply Exists.intro); exact ⟨HREL, rfl⟩)
          case measure =>
            rw [hc7, hcr]
            show K - (q + 1) < K - q
            have h1 := HF.out.2.2; have h2 := HDL.out; have h3 := EQ.out
            omega
  | false =>
    go_wp2
    go_loopw [8] (fun _ wr => Hid (∃ (f : Nat) (A' : List Val) (R' : Pairs) (X' : Nat → Prop) (av' : Value), THa wr X' tb tp mp A' R' M av' d Y ∧ (∀ b, X' b → X b ∨ w.heap.size ≤ b) ∧ Chg X w wr ∧ pull f A' R' = P ∧ R'.length ≤ f ∧ A'.length + R'.length ≤ K)) (fun _ wr => K - lenOf (wr.cell? ⟨tb, 0, none⟩))
    case atStart => exact HI0
    case round =>
      obtain ⟨f, A', R', X', av', hr1, hr2, hr3, hr4, hr5, hr6⟩ := hrel.out
      obtain ⟨sb, scb, hsv, hsc1, hsc2⟩ := hr1.arr.form
      subst hsv
      obtain ⟨q, hq⟩ : ∃ q, A'.length = q := ⟨_, rfl⟩
      have EQ := Lib.hid hq
      have hr1' := hr1
      rw [hq] at hr1'
      have HA := Lib.hid hr1'
      have HXX := Lib.hid hr2
      have HCC := Lib.hid hr3
      have HF := Lib.hid (And.intro hr4 (And.intro hr5 hr6))
      have hqb : q ≤ 1000001 := by have := HKL.out; omega
      have hq0 : (0 : Int) ≤ (q : Int) := by omega
      have hq1 : (q : Int) ≤ 1000001 := by omega
      have HLN : Hid (∀ W, Below wr.heap.size wr W → Calls Try.prog 72 #[.pointer (some ⟨tb, 0, none⟩)] W fun e w' => e = .returned (.int .i64 (q : Nat)) ∧ Below W.heap.size W w') := Lib.hid (fun W hW => tlen_at ((HA.out.below hW).hd.cell 0 _ rfl))
      obtain ⟨⟨x1, x2, x3⟩, hx⟩ : ∃ x, getV R' (intV ((q : Int) + 1)) = x := ⟨_, rfl⟩
      have HXV := Lib.hid hx
      have HGT : Hid (∀ W, Below wr.heap.size wr W → Calls Try.prog 47 #[.pointer (some ⟨d, 0, none⟩), Val.v ⟨2, (q : Int) + 1, Val.e⟩] W fun e w' => e = .returned (Val.v ⟨x1, x2, x3⟩) ∧ Below W.heap.size W w') := Lib.hid (fun W hW => by have := dget_calls (HA.out.below hW).dict (intV ((q : Int) + 1)) (Nat.zero_le _); rw [HXV.out] at this; exact this)
      clear hr1 hr1' hr2 hr3 hr4 hr5 hr6 hq hx hsc1 hsc2 hrel
      go_upto_region 8 with first | (go_at_call 72; go_loud ((with_reducible refine (HLN.out _ (Below.refl _ _)).mono ?_); rintro e wl ⟨rfl, hb⟩; have HBl := Lib.hid hb; clear hb)) | (go_at_call 50; go_loud ((with_reducible refine (ofInt_calls _ _).mono ?_); rintro e wo ⟨rfl, hb⟩; have HBo := Lib.hid (HBl.out.trans (hb.mono HBl.out.size)); clear hb))
      obtain ⟨w2, hw2⟩ : ∃ z, z = wo.alloc (.cells #[.int .i64 2, .int .i64 ((q : Int) + 1), .string Val.e] 57) := ⟨_, rfl⟩
      have HB2 : Hid (Below wr.heap.size wr w2) := Lib.hid (by rw [hw2]; exact HBo.out.alloc HBo.out.size _)
      have HK2 : Hid (Blk w2 wo.heap.size 57 [.int .i64 2, .int .i64 ((q : Int) + 1), .string Val.e]) := Lib.hid (by rw [hw2]; exact Blk.new wo [.int .i64 2, .int .i64 ((q : Int) + 1), .string Val.e] 57)
      have hok : Hid (wr.heap.size ≤ wo.heap.size) := Lib.hid HBo.out.size
      rw [← hw2]
      clear hw2 HBl HBo
      generalize wo.heap.size = kb at HK2 hok ⊢
      have hYk2 : Hid (¬ Y kb) := Lib.hid (fun hb => by have := HA.out.lt _ (HA.out.ownY _ hb).1; have := hok.out; omega)
      have hBF : Below w2.heap.size w2 ({ w2 with drawn := w2.drawn + 1 } : World) := ⟨rfl, rfl, rfl, Nat.le_refl _, fun _ _ => rfl⟩
      refine wp_region_held (S := Below w2.heap.size w2) (by kernel_rfl) ?_
      have hSF := hBF
      generalize ({ w2 with drawn := w2.drawn + 1 } : World) = wF at hSF hBF ⊢
      have hslF := hSF.size
      have q5F : ∀ W, Below w2.heap.size w2 W → W.cell? ⟨tb, 5, none⟩ = some (.pointer (some ⟨d, 0, none⟩)) := fun W hW => (HA.out.below (HB2.out.trans (hW.mono HB2.out.size))).hd.cell 5 _ rfl
      have k0F : ∀ W, Below w2.heap.size w2 W → W.cell? ⟨kb, 0, none⟩ = some (.int .i64 2) := fun W hW => (HK2.out.of (hW.block _ HK2.out.lt)).cell 0 _ rfl
      have k1F : ∀ W, Below w2.heap.size w2 W → W.cell? ⟨kb, 1, none⟩ = some (.int .i64 ((q : Int) + 1)) := fun W hW => (HK2.out.of (hW.block _ HK2.out.lt)).cell 1 _ rfl
      have k2F : ∀ W, Below w2.heap.size w2 W → W.cell? ⟨kb, 2, none⟩ = some (.string Val.e) := fun W hW => (HK2.out.of (hW.block _ HK2.out.lt)).cell 2 _ rfl
      refine takeH 0 (oi := ⟨some 35, _, _, _, _, _⟩) (v := ?_) rfl (by kernel_rfl) (by kernel_rfl) (by kernel_rfl) (fun _ _ _ h => h) (Or.inl ⟨by rfl, ?hyF54⟩) hSF ?restF54
      case hyF54 => (intro W hW; (try dsimp only at hW); go_simp; try with_reducible rfl)
      try simp only [Act.put, List.setIfInBounds_toArray, List.set_cons_zero, List.set_cons_succ]
      refine takeH 1 (oi := ⟨some 36, _, _, _, _, _⟩) (v := ?_) rfl (by kernel_rfl) (by kernel_rfl) (by kernel_rfl) (fun _ _ _ h => h) (Or.inl ⟨by rfl, ?hyF55⟩) hSF ?restF55
      case hyF55 => (intro W hW; (try dsimp only at hW); go_simp; try with_reducible rfl)
      try simp only [Act.put, List.setIfInBounds_toArray, List.set_cons_zero, List.set_cons_succ]
      refine takeH 2 (oi := ⟨some 37, _, _, _, _, _⟩) (v := ?_) rfl (by kernel_rfl) (by kernel_rfl) (by kernel_rfl) (fun _ _ _ h => h) (Or.inl ⟨by rfl, ?hyF56⟩) hSF ?restF56
      case hyF56 => (intro W hW; (try dsimp only at hW); go_simp; try with_reducible rfl)
      try simp only [Act.put, List.setIfInBounds_toArray, List.set_cons_zero, List.set_cons_succ]
      refine takeH 3 (oi := ⟨some 38, _, _, _, _, _⟩) (v := ?_) rfl (by kernel_rfl) (by kernel_rfl) (by kernel_rfl) (fun _ _ _ h => h) (Or.inl ⟨by rfl, ?hyF57⟩) hSF ?restF57
      case hyF57 => (intro W hW; (try dsimp only at hW); go_simp; try with_reducible rfl)
      try simp only [Act.put, List.setIfInBounds_toArray, List.set_cons_zero, List.set_cons_succ]
      refine takeH 4 (oi := ⟨some 39, _, _, _, _, _⟩) (v := ?_) rfl (by kernel_rfl) (by kernel_rfl) (by kernel_rfl) (fun _ _ _ h => h) (Or.inl ⟨by rfl, ?hyF58⟩) hSF ?restF58
      case hyF58 => (intro W hW; (try dsimp only at hW); go_simp; try with_reducible rfl)
      try simp only [Act.put, List.setIfInBounds_toArray, List.set_cons_zero, List.set_cons_succ]
      refine two (i := 5) (j := 6) (by kernel_rfl) ?_ ?_
      · refine wpOp_wanted rfl (by rfl) fun K hK => ?_
        go_simp
        with_reducible refine (HGT.out _ (HB2.out.trans ((hSF).mono HB2.out.size))).mono ?_
        rintro e wF59 ⟨rfl, hb⟩
        have SF59 : Below w2.heap.size w2 wF59 := hSF.trans (hb.mono hSF.size)
        clear hb
        refine hK _ _ ⟨SF59, ?_⟩
        clear hK K
        try simp only [Act.put, List.setIfInBounds_toArray, List.set_cons_zero, List.set_cons_succ]
        refine one (i := 6) (by kernel_rfl) ?_
        refine wpOp_wanted rfl (by rfl) fun K hK => ?_
        go_simp
        have hzF60_6 : w2.heap.size ≤ wF59.heap.size := by have h := SF59.size; omega
        have SF60 : Below w2.heap.size w2 (wF59.alloc (.cells #[.int .i64 0, .int .i64 0, .string ⟨#[]⟩] 57)) := (bel1 SF59 _)
        have BF60_6 : Hid (Blk (wF59.alloc (.cells #[.int .i64 0, .int .i64 0, .string ⟨#[]⟩] 57)) (wF59.heap.size) 57 [.int .i64 0, .int .i64 0, .string ⟨#[]⟩]) := Lib.hid (by have h := Blk.new wF59 [.int .i64 0, .int .i64 0, .string ⟨#[]⟩] 57; exact h)
        refine hK _ _ ⟨SF60, ?_⟩
        clear hK K
        try simp only [Act.put, List.setIfInBounds_toArray, List.set_cons_zero, List.set_cons_succ]
        refine one (i := 7) (by kernel_rfl) ?_
        refine wpOp_wanted rfl (by rfl) fun K hK => ?_
        go_simp
        have SF61 : Below w2.heap.size w2 (wF59.alloc (.cells #[.int .i64 x1, .int .i64 x2, .string x3] 57)) := (bel1 SF59 _)
        have BF61_6 : Hid (Blk (wF59.alloc (.cells #[.int .i64 x1, .int .i64 x2, .string x3] 57)) (wF59.heap.size) 57 [.int .i64 x1, .int .i64 x2, .string x3]) := Lib.hid (by have h := Blk.new wF59 [.int .i64 x1, .int .i64 x2, .string x3] 57; exact h)
        refine hK _ _ ⟨SF61, ?_⟩
        clear hK K
        try simp only [Act.put, List.setIfInBounds_toArray, List.set_cons_zero, List.set_cons_succ]
        refine wpAnyH_done (by kernel_rfl) ?_ _
        clear q5F k0F k1F k2F
        have HB3 : Hid (Below wr.heap.size wr (wF59.alloc (.cells #[.int .i64 x1, .int .i64 x2, .string x3] 57))) := Lib.hid (HB2.out.trans ((SF61).mono HB2.out.size))
        have HK3 := Lib.hid (HK2.out.of ((SF61).block _ HK2.out.lt))
        have HV3 := BF61_6
        have hvb : Hid (wr.heap.size ≤ (wF59.heap.size)) := Lib.hid (by have h1 := HB2.out.size; have h2 := hBF.size; first | omega | (have h3 := (SF61).size; have h4 := HV3.out.lt; simp only [World.heap_alloc] at *; omega))
        generalize (wF59.alloc (.cells #[.int .i64 x1, .int .i64 x2, .string x3] 57)) = w3 at HB3 HK3 HV3 ⊢
        generalize (wF59.heap.size) = vb at HV3 hvb ⊢
        have v0 := HV3.out.cell 0 _ rfl
        by_cases hx0 : x1 = 0
        · subst hx0
          go_wp2
          go_ret
          have hp := pull_stop f (A := A') (R := R') (by rw [EQ.out, HXV.out])
          have hP : (A', R') = P := by rw [← hp]; exact HF.out.1
          rw [← hP]
          have h1 := HA.out.below HB3.out
          have h2 := HXX.out
          have h3 := HCC.out.trans (Chg.ofBelow (B := fun _ => False) HB3.out) (fun b _ h => h.elim)
          first | exact ⟨rfl, X', _, h1, h2, h3⟩ | exact ⟨rfl, X', ⟨_, h1⟩, h2, h3⟩ | exact ⟨rfl, ⟨X', ⟨_, h1⟩, h2⟩, h3⟩
        · have hx1 : (x1 == 0) = false := by simpa using hx0
          have HX0 := Lib.hid hx0
          clear hx0
          have hg := getV_some (L := R') (x := intV ((q : Int) + 1)) (by rw [HXV.out]; exact HX0.out)
          have HDD : Hid (∀ W, DAt W Y d R' M → Calls Try.prog 45 #[.pointer (some ⟨d, 0, none⟩), Val.v ⟨2, (q : Int) + 1, Val.e⟩] W fun e w' => e = .returned (.bool true) ∧ DAt w' Y d (dropA R' (intV ((q : Int) + 1))) M ∧ Chg Y W w') := Lib.hid (fun W hW => by have := ddrop_calls hW (intV ((q : Int) + 1)) (Nat.zero_le _); rw [hg.1] at this; exact this)
          have HDL : Hid ((dropA R' (intV ((q : Int) + 1))).length < R'.length) := Lib.hid (dropA_len hg.2)
          clear hg
          go_upto_region 11 with (fail)
          clear v0
          have BLH : Below w3.heap.size w3 ({ w3 with drawn := w3.drawn + 1 } : World) := ⟨rfl, rfl, rfl, Nat.le_refl _, fun _ _ => rfl⟩
          refine wp_region_held (S := Chg (Y) w3) (by kernel_rfl) ?_
          have hSH : Chg (Y) w3 ({ w3 with drawn := w3.drawn + 1 } : World) := Chg.ofBelow BLH
          generalize ({ w3 with drawn := w3.drawn + 1 } : World) = wH at hSH BLH ⊢
          have q5H : ∀ W, Chg (Y) w3 W → W.cell? ⟨tb, 5, none⟩ = some (.pointer (some ⟨d, 0, none⟩)) := fun W hW => ((HA.out.below HB3.out).hd.of (hW.block tb (HA.out.below HB3.out).hd.lt hYt.out)).cell 5 _ rfl
          have k0H : ∀ W, Chg (Y) w3 W → W.cell? ⟨kb, 0, none⟩ = some (.int .i64 2) := fun W hW => (HK3.out.of (hW.block _ HK3.out.lt hYk2.out)).cell 0 _ rfl
          have k1H : ∀ W, Chg (Y) w3 W → W.cell? ⟨kb, 1, none⟩ = some (.int .i64 ((q : Int) + 1)) := fun W hW => (HK3.out.of (hW.block _ HK3.out.lt hYk2.out)).cell 1 _ rfl
          have k2H : ∀ W, Chg (Y) w3 W → W.cell? ⟨kb, 2, none⟩ = some (.string Val.e) := fun W hW => (HK3.out.of (hW.block _ HK3.out.lt hYk2.out)).cell 2 _ rfl
          refine takeH 0 (oi := ⟨some 45, _, _, _, _, _⟩) (v := ?_) rfl (by kernel_rfl) (by kernel_rfl) (by kernel_rfl) (fun _ _ _ h => h) (Or.inl ⟨by rfl, ?hyH62⟩) hSH ?restH62
          case hyH62 => (intro W hW; (try dsimp only at hW); go_simp; try with_reducible rfl)
          try simp only [Act.put, List.setIfInBounds_toArray, List.set_cons_zero, List.set_cons_succ]
          refine takeH 1 (oi := ⟨some 46, _, _, _, _, _⟩) (v := ?_) rfl (by kernel_rfl) (by kernel_rfl) (by kernel_rfl) (fun _ _ _ h => h) (Or.inl ⟨by rfl, ?hyH63⟩) hSH ?restH63
          case hyH63 => (intro W hW; (try dsimp only at hW); go_simp; try with_reducible rfl)
          try simp only [Act.put, List.setIfInBounds_toArray, List.set_cons_zero, List.set_cons_succ]
          refine takeH 2 (oi := ⟨some 47, _, _, _, _, _⟩) (v := ?_) rfl (by kernel_rfl) (by kernel_rfl) (by kernel_rfl) (fun _ _ _ h => h) (Or.inl ⟨by rfl, ?hyH64⟩) hSH ?restH64
          case hyH64 => (intro W hW; (try dsimp only at hW); go_simp; try with_reducible rfl)
          try simp only [Act.put, List.setIfInBounds_toArray, List.set_cons_zero, List.set_cons_succ]
          refine takeH 3 (oi := ⟨some 48, _, _, _, _, _⟩) (v := ?_) rfl (by kernel_rfl) (by kernel_rfl) (by kernel_rfl) (fun _ _ _ h => h) (Or.inl ⟨by rfl, ?hyH65⟩) hSH ?restH65
          case hyH65 => (intro W hW; (try dsimp only at hW); go_simp; try with_reducible rfl)
          try simp only [Act.put, List.setIfInBounds_toArray, List.set_cons_zero, List.set_cons_succ]
          refine takeH 4 (oi := ⟨some 49, _, _, _, _, _⟩) (v := ?_) rfl (by kernel_rfl) (by kernel_rfl) (by kernel_rfl) (fun _ _ _ h => h) (Or.inl ⟨by rfl, ?hyH66⟩) hSH ?restH66
          case hyH66 => (intro W hW; (try dsimp only at hW); go_simp; try with_reducible rfl)
          try simp only [Act.put, List.setIfInBounds_toArray, List.set_cons_zero, List.set_cons_succ]
          refine one (i := 5) (by kernel_rfl) ?_
          refine wpOp_wanted rfl (by rfl) fun K hK => ?_
          go_simp
          with_reducible refine (HDD.out _ ((HA.out.below HB3.out).dict.below BLH)).mono ?_
          rintro e wH67 ⟨rfl, hd, hc⟩
          have SH67 : Chg (Y) w3 wH67 := (Chg.ofBelow BLH).trans hc (fun b _ h => h)
          have HD9 := Lib.hid hd
          clear hd hc
          refine hK _ _ ⟨SH67, ?_⟩
          clear hK K
          try simp only [Act.put, List.setIfInBounds_toArray, List.set_cons_zero, List.set_cons_succ]
          refine wpAnyH_done (by kernel_rfl) ?_ _
          clear q5H k0H k1H k2H
          have HC9 := Lib.hid (SH67)
          generalize wH67 = w4 at HC9 HD9 ⊢
          have HA3 := Lib.hid (HA.out.below HB3.out)
          have HA4 : Hid (THa w4 X' tb tp mp A' (dropA R' (intV ((q : Int) + 1))) M (.slice sb q scb) d Y) := Lib.hid { HA3.out with hd := HA3.out.hd.of (HC9.out.block tb HA3.out.hd.lt hYt.out), arr := HA3.out.arr.of (fun g hg => HC9.out.block g (HA3.out.arr.lt g hg).2 (fun h => (HA3.out.ownY g h).2.2 hg)), dict := HD9.out, lt := fun b hb => Nat.lt_of_lt_of_le (HA3.out.lt b hb) HC9.out.size }
          have hYv2 : Hid (¬ Y vb) := Lib.hid (fun hb => by have := HA.out.lt _ (HA.out.ownY _ hb).1; have := hvb.out; omega)
          have HV4 := Lib.hid (HV3.out.of (HC9.out.block _ HV3.out.lt hYv2.out))
          have HV4nb : Hid (∀ b, (Value.slice sb q scb).ownBlock = some b → b = vb → False) := Lib.hid (fun b hb e => by have := (HA.out.arr.lt b hb).2; have := hvb.out; omega)
          have HH4 : Hid (Blk w4 tb 202 (.slice sb q scb :: [tp, .int .i64 2, .int .i64 (-1), .slice none 0 0, .pointer (some ⟨d, 0, none⟩), mp])) := Lib.hid HA4.out.hd
          have HAL : Hid (A'.length ≤ 1048576) := Lib.hid (by rw [EQ.out]; omega)
          go_upto_region 12 with (fail)
          have hu := Try.underlying57
          refine RG.region_F (fun W => (Blk W tb 202 (.slice sb q scb :: [tp, .int .i64 2, .int .i64 (-1), .slice none 0 0, .pointer (some ⟨d, 0, none⟩), mp])) ∧ Blk W (vb) 57 [.int .i64 x1, .int .i64 x2, .string x3]) 10 (by kernel_rfl) ?_
          have hB0 : Below w4.heap.size w4 ({ w4 with drawn := w4.drawn + 1 } : World) := ⟨rfl, rfl, rfl, Nat.le_refl _, fun _ _ => rfl⟩
          generalize ({ w4 with drawn := w4.drawn + 1 } : World) = w5J at hB0 ⊢
          have HB5J := Lib.hid hB0
          have hH5 := Lib.hid (HH4.out.of (hB0.block _ HH4.out.lt))
          have hV5 := Lib.hid (HV4.out.of (hB0.block _ HV4.out.lt))
          have hO5 := Lib.hid ((HA4.out.arr).below hB0)
          have hS0 := And.intro hH5.out hV5.out
          refine RG.takeF 0 (oi := ⟨some 51, _, _, _, _, _⟩) (v := ?_) rfl (by kernel_rfl) (by kernel_rfl) (by kernel_rfl) (by kernel_rfl) (fun _ _ _ h => h) (Or.inl ⟨by rfl, ?hyJ_680⟩) hS0 ?restJ_680
          case hyJ_680 => (intro W hW; have q4 := hW.1.cell 0 _ rfl; have p0 := hW.2.cell 0 _ rfl; have p1 := hW.2.cell 1 _ rfl; have p2 := hW.2.cell 2 _ rfl; go_simp; try with_reducible rfl)
          try simp only [Act.put, List.setIfInBounds_toArray, List.set_cons_zero, List.set_cons_succ]
          refine RG.takeF 1 (oi := ⟨some 52, _, _, _, _, _⟩) (v := ?_) rfl (by kernel_rfl) (by kernel_rfl) (by kernel_rfl) (by kernel_rfl) (fun _ _ _ h => h) (Or.inl ⟨by rfl, ?hyJ_691⟩) hS0 ?restJ_691
          case hyJ_691 => (intro W hW; have q4 := hW.1.cell 0 _ rfl; have p0 := hW.2.cell 0 _ rfl; have p1 := hW.2.cell 1 _ rfl; have p2 := hW.2.cell 2 _ rfl; go_simp; try with_reducible rfl)
          try simp only [Act.put, List.setIfInBounds_toArray, List.set_cons_zero, List.set_cons_succ]
          refine RG.takeF 2 (oi := ⟨some 53, _, _, _, _, _⟩) (v := ?_) rfl (by kernel_rfl) (by kernel_rfl) (by kernel_rfl) (by kernel_rfl) (fun _ _ _ h => h) (Or.inl ⟨by rfl, ?hyJ_702⟩) hS0 ?restJ_702
          case hyJ_702 => (intro W hW; have q4 := hW.1.cell 0 _ rfl; have p0 := hW.2.cell 0 _ rfl; have p1 := hW.2.cell 1 _ rfl; have p2 := hW.2.cell 2 _ rfl; go_simp; try with_reducible rfl)
          try simp only [Act.put, List.setIfInBounds_toArray, List.set_cons_zero, List.set_cons_succ]
          refine RG.takeF 3 (oi := ⟨some 54, _, _, _, _, _⟩) (v := ?_) rfl (by kernel_rfl) (by kernel_rfl) (by kernel_rfl) (by kernel_rfl) (fun _ _ _ h => h) (Or.inl ⟨by rfl, ?hyJ_713⟩) hS0 ?restJ_713
          case hyJ_713 => (intro W hW; have q4 := hW.1.cell 0 _ rfl; have p0 := hW.2.cell 0 _ rfl; have p1 := hW.2.cell 1 _ rfl; have p2 := hW.2.cell 2 _ rfl; go_simp; try with_reducible rfl)
          try simp only [Act.put, List.setIfInBounds_toArray, List.set_cons_zero, List.set_cons_succ]
          refine RG.takeF 4 (oi := ⟨some 55, _, _, _, _, _⟩) (v := ?_) rfl (by kernel_rfl) (by kernel_rfl) (by kernel_rfl) (by kernel_rfl) (fun _ _ _ h => h) (Or.inl ⟨by rfl, ?hyJ_724⟩) hS0 ?restJ_724
          case hyJ_724 => (intro W hW; have q4 := hW.1.cell 0 _ rfl; have p0 := hW.2.cell 0 _ rfl; have p1 := hW.2.cell 1 _ rfl; have p2 := hW.2.cell 2 _ rfl; go_simp; try with_reducible rfl)
          try simp only [Act.put, List.setIfInBounds_toArray, List.set_cons_zero, List.set_cons_succ]
          refine RG.takeF 5 (oi := ⟨some 56, _, _, _, _, _⟩) (v := ?_) rfl (by kernel_rfl) (by kernel_rfl) (by kernel_rfl) (by kernel_rfl) (fun _ _ _ h => h) (Or.inl ⟨by rfl, ?hyJ_735⟩) hS0 ?restJ_735
          case hyJ_735 => (intro W hW; have q4 := hW.1.cell 0 _ rfl; have p0 := hW.2.cell 0 _ rfl; have p1 := hW.2.cell 1 _ rfl; have p2 := hW.2.cell 2 _ rfl; go_simp; try with_reducible rfl)
          try simp only [Act.put, List.setIfInBounds_toArray, List.set_cons_zero, List.set_cons_succ]
          refine RG.oneF 6 (by kernel_rfl) (by decide) ?_
          refine RG.wpOp_plain rfl rfl fun K hK => ?_
          go_simp
          refine hK _ _ ⟨⟨hH5.out.alloc _, hV5.out.alloc _⟩, ?_⟩
          clear hK K
          try simp only [Act.put, List.setIfInBounds_toArray, List.set_cons_zero, List.set_cons_succ]
          obtain ⟨na, nc, w6, r, hH6, hnt, hap⟩ := arr_app hH5.out hO5.out (HAL.out) ⟨x1, x2, x3⟩
          rw [EQ.out] at r hap
          have hV6 := hV5.out.of (hnt _ hV5.out.lt (fun e => HV4nb.out _ e rfl))
          refine RG.oneF 7 (by kernel_rfl) (by decide) ?_
          refine RG.wpOp_plain rfl rfl fun K hK => ?_
          refine RG.wp_append_run _ _ 55 55 rfl rfl rfl r ?_
          refine hK _ _ ⟨⟨hH6, hV6⟩, ?_⟩
          clear hK K
          try simp only [Act.put, List.setIfInBounds_toArray, List.set_cons_zero, List.set_cons_succ]
          refine RG.oneF 8 (by kernel_rfl) (by decide) ?_
          refine RG.wpOp_plain rfl rfl fun K hK => ?_
          go_simp
          refine hK _ _ ⟨⟨hH6, hV6⟩, ?_⟩
          clear hK K
          try simp only [Act.put, List.setIfInBounds_toArray, List.set_cons_zero, List.set_cons_succ]
          refine RG.oneF 9 (by kernel_rfl) (by decide) ?_
          refine RG.wpOp_plain rfl rfl fun K hK => ?_
          go_simp
          refine hK _ _ ⟨⟨hH6, hV6⟩, ?_⟩
          clear hK K
          try simp only [Act.put, List.setIfInBounds_toArray, List.set_cons_zero, List.set_cons_succ]
          have c3 := hH6.cell 0 _ rfl
          have z3 := hH6.frozen 0
          refine RG.lastF (by kernel_rfl) (by kernel_rfl) ?_
          refine RG.wpOp_wanted rfl (by rfl) fun K hK => ?_
          go_simp
          refine hK _ _ ?_
          clear hK K
          try simp only [Act.put, List.setIfInBounds_toArray, List.set_cons_zero, List.set_cons_succ]
          have HPJ := Lib.hid hap
          clear c3 z3 r hH6 hnt hap hV6 hS0
          have HT5 := Lib.hid (HA4.out.below HB5J.out)
          generalize w6.setCell ⟨tb, 0, none⟩ (Value.slice na (q + 1) nc) = w7 at HPJ ⊢
          have HT7' := Lib.hid (HT5.out.app HPJ.out)
          have hc7 := HPJ.out.hd.cell 0 _ rfl
          have hcr := HA.out.hd.cell 0 _ rfl
          clear hH5 hV5 hO5
          have HREL : Hid (∃ (f : Nat) (A' : List Val) (R' : Pairs) (X' : Nat → Prop) (av' : Value), THa w7 X' tb tp mp A' R' M av' d Y ∧ (∀ b, X' b → X b ∨ w.heap.size ≤ b) ∧ Chg X w w7 ∧ pull f A' R' = P ∧ R'.length ≤ f ∧ A'.length + R'.length ≤ K) := by
            obtain ⟨f', rfl⟩ : ∃ f', f = f' + 1 := ⟨f - 1, by have h1 := HF.out.2.1; have h2 := HDL.out; omega⟩
            have hp := pull_go f' (A := A') (R := R') (by rw [EQ.out, HXV.out]; exact HX0.out)
            rw [EQ.out, HXV.out] at hp
            refine Lib.hid ⟨f', _, _, _, _, HT7'.out, fun b hb => ?_, ?_, by rw [← hp]; exact HF.out.1, by have h1 := HF.out.2.1; have h2 := HDL.out; omega, by have h1 := HF.out.2.2; have h2 := HDL.out; rw [List.length_append, List.length_singleton]; omega⟩
            · rcases hb with hb | hb
              · exact HXX.out b hb
              · have h1 := HCC.out.size; have h2 := HB3.out.size; have h3 := HC9.out.size; have h4 := HB5J.out.size; exact .inr (by omega)
            · have c1 : Chg X w w3 := HCC.out.trans (Chg.ofBelow (B := fun _ => False) HB3.out) (fun b _ h => h.elim)
              have c2 : Chg X w w4 := c1.trans HC9.out (fun b hb h => (HTW.out.ownY b h).1)
              have c3 : Chg X w w5J := c2.trans (Chg.ofBelow (B := fun _ => False) HB5J.out) (fun b _ h => h.elim)
              exact c3.trans (HT5.out.appC HPJ.out) (fun b hb h => Or.elim (HXX.out b h) id (fun h2 => absurd h2 (by omega)))
          go_roundw
          case rel => first | exact HREL | ((repeat apply Exists.intro); exact ⟨HREL, rfl⟩)
          case measure =>
            rw [hc7, hcr]
            show K - (q + 1) < K - q
            have h1 := HF.out.2.2; have h2 := HDL.out; have h3 := EQ.out
            omega
      · refine wpOp_wanted rfl (by rfl) fun K hK => ?_
        go_simp
        have hzF74_6 : w2.heap.size ≤ wF.heap.size := by have h := hSF.size; omega
        have SF74 : Below w2.heap.size w2 (wF.alloc (.cells #[.int .i64 0, .int .i64 0, .string ⟨#[]⟩] 57)) := (bel1 hSF _)
        have BF74_6 : Hid (Blk (wF.alloc (.cells #[.int .i64 0, .int .i64 0, .string ⟨#[]⟩] 57)) (wF.heap.size) 57 [.int .i64 0, .int .i64 0, .string ⟨#[]⟩]) := Lib.hid (by have h := Blk.new wF [.int .i64 0, .int .i64 0, .string ⟨#[]⟩] 57; exact h)
        refine hK _ _ ⟨SF74, ?_⟩
        clear hK K
        try simp only [Act.put, List.setIfInBounds_toArray, List.set_cons_zero, List.set_cons_succ]
        refine one (i := 5) (by kernel_rfl) ?_
        refine wpOp_wanted rfl (by rfl) fun K hK => ?_
        go_simp
        with_reducible refine (HGT.out _ (HB2.out.trans ((SF74).mono HB2.out.size))).mono ?_
        rintro e wF75 ⟨rfl, hb⟩
        have SF75 : Below w2.heap.size w2 wF75 := SF74.trans (hb.mono SF74.size)
        have BF75_6 := Lib.hid (BF74_6.out.of (hb.block _ BF74_6.out.lt))
        clear hb
        refine hK _ _ ⟨SF75, ?_⟩
        clear hK K
        try simp only [Act.put, List.setIfInBounds_toArray, List.set_cons_zero, List.set_cons_succ]
        refine one (i := 7) (by kernel_rfl) ?_
        refine wpOp_wanted rfl (by rfl) fun K hK => ?_
        have kcF760 := BF75_6.out.cell 0 _ rfl
        have kzF760 := BF75_6.out.frozen 0
        have kcF761 := BF75_6.out.cell 1 _ rfl
        have kzF761 := BF75_6.out.frozen 1
        have kcF762 := BF75_6.out.cell 2 _ rfl
        have kzF762 := BF75_6.out.frozen 2
        go_simp
        clear kcF760 kzF760 kcF761 kzF761 kcF762 kzF762
        have SF76 : Below w2.heap.size w2 (((wF75.setCell ⟨(wF.heap.size), 0, none⟩ (.int .i64 x1)).setCell ⟨(wF.heap.size), 1, none⟩ (.int .i64 x2)).setCell ⟨(wF.heap.size), 2, none⟩ (.string x3)) := ((((((SF75).setCell hzF74_6 (.int .i64 x1))).setCell hzF74_6 (.int .i64 x2))).setCell hzF74_6 (.string x3))
        have BF76_6 : Hid (Blk (((wF75.setCell ⟨(wF.heap.size), 0, none⟩ (.int .i64 x1)).setCell ⟨(wF.heap.size), 1, none⟩ (.int .i64 x2)).setCell ⟨(wF.heap.size), 2, none⟩ (.string x3)) (wF.heap.size) 57 [.int .i64 x1, .int .i64 x2, .string x3]) := Lib.hid (((((((BF75_6.out).setSame 0 (.int .i64 x1))).setSame 1 (.int .i64 x2))).setSame 2 (.string x3)))
        refine hK _ _ ⟨SF76, ?_⟩
        clear hK K
        try simp only [Act.put, List.setIfInBounds_toArray, List.set_cons_zero, List.set_cons_succ]
        refine wpAnyH_done (by kernel_rfl) ?_ _
        clear q5F k0F k1F k2F
        have HB3 : Hid (Below wr.heap.size wr (((wF75.setCell ⟨(wF.heap.size), 0, none⟩ (.int .i64 x1)).setCell ⟨(wF.heap.size), 1, none⟩ (.int .i64 x2)).setCell ⟨(wF.heap.size), 2, none⟩ (.string x3))) := Lib.hid (HB2.out.trans ((SF76).mono HB2.out.size))
        have HK3 := Lib.hid (HK2.out.of ((SF76).block _ HK2.out.lt))
        have HV3 := BF76_6
        have hvb : Hid (wr.heap.size ≤ (wF.heap.size)) := Lib.hid (by have h1 := HB2.out.size; have h2 := hBF.size; first | omega | (have h3 := (SF76).size; have h4 := HV3.out.lt; simp only [World.heap_alloc] at *; omega))
        generalize (((wF75.setCell ⟨(wF.heap.size), 0, none⟩ (.int .i64 x1)).setCell ⟨(wF.heap.size), 1, none⟩ (.int .i64 x2)).setCell ⟨(wF.heap.size), 2, none⟩ (.string x3)) = w3 at HB3 HK3 HV3 ⊢
        generalize (wF.heap.size) = vb at HV3 hvb ⊢
        have v0 := HV3.out.cell 0 _ rfl
        by_cases hx0 : x1 = 0
        · subst hx0
          go_wp2
          go_ret
          have hp := pull_stop f (A := A') (R := R') (by rw [EQ.out, HXV.out])
          have hP : (A', R') = P := by rw [← hp]; exact HF.out.1
          rw [← hP]
          have h1 := HA.out.below HB3.out
          have h2 := HXX.out
          have h3 := HCC.out.trans (Chg.ofBelow (B := fun _ => False) HB3.out) (fun b _ h => h.elim)
          first | exact ⟨rfl, X', _, h1, h2, h3⟩ | exact ⟨rfl, X', ⟨_, h1⟩, h2, h3⟩ | exact ⟨rfl, ⟨X', ⟨_, h1⟩, h2⟩, h3⟩
        · have hx1 : (x1 == 0) = false := by simpa using hx0
          have HX0 := Lib.hid hx0
          clear hx0
          have hg := getV_some (L := R') (x := intV ((q : Int) + 1)) (by rw [HXV.out]; exact HX0.out)
          have HDD : Hid (∀ W, DAt W Y d R' M → Calls Try.prog 45 #[.pointer (some ⟨d, 0, none⟩), Val.v ⟨2, (q : Int) + 1, Val.e⟩] W fun e w' => e = .returned (.bool true) ∧ DAt w' Y d (dropA R' (intV ((q : Int) + 1))) M ∧ Chg Y W w') := Lib.hid (fun W hW => by have := ddrop_calls hW (intV ((q : Int) + 1)) (Nat.zero_le _); rw [hg.1] at this; exact this)
          have HDL : Hid ((dropA R' (intV ((q : Int) + 1))).length < R'.length) := Lib.hid (dropA_len hg.2)
          clear hg
          go_upto_region 11 with (fail)
          clear v0
          have BLH : Below w3.heap.size w3 ({ w3 with drawn := w3.drawn + 1 } : World) := ⟨rfl, rfl, rfl, Nat.le_refl _, fun _ _ => rfl⟩
          refine wp_region_held (S := Chg (Y) w3) (by kernel_rfl) ?_
          have hSH : Chg (Y) w3 ({ w3 with drawn := w3.drawn + 1 } : World) := Chg.ofBelow BLH
          generalize ({ w3 with drawn := w3.drawn + 1 } : World) = wH at hSH BLH ⊢
          have q5H : ∀ W, Chg (Y) w3 W → W.cell? ⟨tb, 5, none⟩ = some (.pointer (some ⟨d, 0, none⟩)) := fun W hW => ((HA.out.below HB3.out).hd.of (hW.block tb (HA.out.below HB3.out).hd.lt hYt.out)).cell 5 _ rfl
          have k0H : ∀ W, Chg (Y) w3 W → W.cell? ⟨kb, 0, none⟩ = some (.int .i64 2) := fun W hW => (HK3.out.of (hW.block _ HK3.out.lt hYk2.out)).cell 0 _ rfl
          have k1H : ∀ W, Chg (Y) w3 W → W.cell? ⟨kb, 1, none⟩ = some (.int .i64 ((q : Int) + 1)) := fun W hW => (HK3.out.of (hW.block _ HK3.out.lt hYk2.out)).cell 1 _ rfl
          have k2H : ∀ W, Chg (Y) w3 W → W.cell? ⟨kb, 2, none⟩ = some (.string Val.e) := fun W hW => (HK3.out.of (hW.block _ HK3.out.lt hYk2.out)).cell 2 _ rfl
          refine takeH 0 (oi := ⟨some 45, _, _, _, _, _⟩) (v := ?_) rfl (by kernel_rfl) (by kernel_rfl) (by kernel_rfl) (fun _ _ _ h => h) (Or.inl ⟨by rfl, ?hyH77⟩) hSH ?restH77
          case hyH77 => (intro W hW; (try dsimp only at hW); go_simp; try with_reducible rfl)
          try simp only [Act.put, List.setIfInBounds_toArray, List.set_cons_zero, List.set_cons_succ]
          refine takeH 1 (oi := ⟨some 46, _, _, _, _, _⟩) (v := ?_) rfl (by kernel_rfl) (by kernel_rfl) (by kernel_rfl) (fun _ _ _ h => h) (Or.inl ⟨by rfl, ?hyH78⟩) hSH ?restH78
          case hyH78 => (intro W hW; (try dsimp only at hW); go_simp; try with_reducible rfl)
          try simp only [Act.put, List.setIfInBounds_toArray, List.set_cons_zero, List.set_cons_succ]
          refine takeH 2 (oi := ⟨some 47, _, _, _, _, _⟩) (v := ?_) rfl (by kernel_rfl) (by kernel_rfl) (by kernel_rfl) (fun _ _ _ h => h) (Or.inl ⟨by rfl, ?hyH79⟩) hSH ?restH79
          case hyH79 => (intro W hW; (try dsimp only at hW); go_simp; try with_reducible rfl)
          try simp only [Act.put, List.setIfInBounds_toArray, List.set_cons_zero, List.set_cons_succ]
          refine takeH 3 (oi := ⟨some 48, _, _, _, _, _⟩) (v := ?_) rfl (by kernel_rfl) (by kernel_rfl) (by kernel_rfl) (fun _ _ _ h => h) (Or.inl ⟨by rfl, ?hyH80⟩) hSH ?restH80
          case hyH80 => (intro W hW; (try dsimp only at hW); go_simp; try with_reducible rfl)
          try simp only [Act.put, List.setIfInBounds_toArray, List.set_cons_zero, List.set_cons_succ]
          refine takeH 4 (oi := ⟨some 49, _, _, _, _, _⟩) (v := ?_) rfl (by kernel_rfl) (by kernel_rfl) (by kernel_rfl) (fun _ _ _ h => h) (Or.inl ⟨by rfl, ?hyH81⟩) hSH ?restH81
          case hyH81 => (intro W hW; (try dsimp only at hW); go_simp; try with_reducible rfl)
          try simp only [Act.put, List.setIfInBounds_toArray, List.set_cons_zero, List.set_cons_succ]
          refine one (i := 5) (by kernel_rfl) ?_
          refine wpOp_wanted rfl (by rfl) fun K hK => ?_
          go_simp
          with_reducible refine (HDD.out _ ((HA.out.below HB3.out).dict.below BLH)).mono ?_
          rintro e wH82 ⟨rfl, hd, hc⟩
          have SH82 : Chg (Y) w3 wH82 := (Chg.ofBelow BLH).trans hc (fun b _ h => h)
          have HD9 := Lib.hid hd
          clear hd hc
          refine hK _ _ ⟨SH82, ?_⟩
          clear hK K
          try simp only [Act.put, List.setIfInBounds_toArray, List.set_cons_zero, List.set_cons_succ]
          refine wpAnyH_done (by kernel_rfl) ?_ _
          clear q5H k0H k1H k2H
          have HC9 := Lib.hid (SH82)
          generalize wH82 = w4 at HC9 HD9 ⊢
          have HA3 := Lib.hid (HA.out.below HB3.out)
          have HA4 : Hid (THa w4 X' tb tp mp A' (dropA R' (intV ((q : Int) + 1))) M (.slice sb q scb) d Y) := Lib.hid { HA3.out with hd := HA3.out.hd.of (HC9.out.block tb HA3.out.hd.lt hYt.out), arr := HA3.out.arr.of (fun g hg => HC9.out.block g (HA3.out.arr.lt g hg).2 (fun h => (HA3.out.ownY g h).2.2 hg)), dict := HD9.out, lt := fun b hb => Nat.lt_of_lt_of_le (HA3.out.lt b hb) HC9.out.size }
          have hYv2 : Hid (¬ Y vb) := Lib.hid (fun hb => by have := HA.out.lt _ (HA.out.ownY _ hb).1; have := hvb.out; omega)
          have HV4 := Lib.hid (HV3.out.of (HC9.out.block _ HV3.out.lt hYv2.out))
          have HV4nb : Hid (∀ b, (Value.slice sb q scb).ownBlock = some b → b = vb → False) := Lib.hid (fun b hb e => by have := (HA.out.arr.lt b hb).2; have := hvb.out; omega)
          have HH4 : Hid (Blk w4 tb 202 (.slice sb q scb :: [tp, .int .i64 2, .int .i64 (-1), .slice none 0 0, .pointer (some ⟨d, 0, none⟩), mp])) := Lib.hid HA4.out.hd
          have HAL : Hid (A'.length ≤ 1048576) := Lib.hid (by rw [EQ.out]; omega)
          go_upto_region 12 with (fail)
          have hu := Try.underlying57
          refine RG.region_F (fun W => (Blk W tb 202 (.slice sb q scb :: [tp, .int .i64 2, .int .i64 (-1), .slice none 0 0, .pointer (some ⟨d, 0, none⟩), mp])) ∧ Blk W (vb) 57 [.int .i64 x1, .int .i64 x2, .string x3]) 10 (by kernel_rfl) ?_
          have hB0 : Below w4.heap.size w4 ({ w4 with drawn := w4.drawn + 1 } : World) := ⟨rfl, rfl, rfl, Nat.le_refl _, fun _ _ => rfl⟩
          generalize ({ w4 with drawn := w4.drawn + 1 } : World) = w5J at hB0 ⊢
          have HB5J := Lib.hid hB0
          have hH5 := Lib.hid (HH4.out.of (hB0.block _ HH4.out.lt))
          have hV5 := Lib.hid (HV4.out.of (hB0.block _ HV4.out.lt))
          have hO5 := Lib.hid ((HA4.out.arr).below hB0)
          have hS0 := And.intro hH5.out hV5.out
          refine RG.takeF 0 (oi := ⟨some 51, _, _, _, _, _⟩) (v := ?_) rfl (by kernel_rfl) (by kernel_rfl) (by kernel_rfl) (by kernel_rfl) (fun _ _ _ h => h) (Or.inl ⟨by rfl, ?hyJ_830⟩) hS0 ?restJ_830
          case hyJ_830 => (intro W hW; have q4 := hW.1.cell 0 _ rfl; have p0 := hW.2.cell 0 _ rfl; have p1 := hW.2.cell 1 _ rfl; have p2 := hW.2.cell 2 _ rfl; go_simp; try with_reducible rfl)
          try simp only [Act.put, List.setIfInBounds_toArray, List.set_cons_zero, List.set_cons_succ]
          refine RG.takeF 1 (oi := ⟨some 52, _, _, _, _, _⟩) (v := ?_) rfl (by kernel_rfl) (by kernel_rfl) (by kernel_rfl) (by kernel_rfl) (fun _ _ _ h => h) (Or.inl ⟨by rfl, ?hyJ_841⟩) hS0 ?restJ_841
          case hyJ_841 => (intro W hW; have q4 := hW.1.cell 0 _ rfl; have p0 := hW.2.cell 0 _ rfl; have p1 := hW.2.cell 1 _ rfl; have p2 := hW.2.cell 2 _ rfl; go_simp; try with_reducible rfl)
          try simp only [Act.put, List.setIfInBounds_toArray, List.set_cons_zero, List.set_cons_succ]
          refine RG.takeF 2 (oi := ⟨some 53, _, _, _, _, _⟩) (v := ?_) rfl (by kernel_rfl) (by kernel_rfl) (by kernel_rfl) (by kernel_rfl) (fun _ _ _ h => h) (Or.inl ⟨by rfl, ?hyJ_852⟩) hS0 ?restJ_852
          case hyJ_852 => (intro W hW; have q4 := hW.1.cell 0 _ rfl; have p0 := hW.2.cell 0 _ rfl; have p1 := hW.2.cell 1 _ rfl; have p2 := hW.2.cell 2 _ rfl; go_simp; try with_reducible rfl)
          try simp only [Act.put, List.setIfInBounds_toArray, List.set_cons_zero, List.set_cons_succ]
          refine RG.takeF 3 (oi := ⟨some 54, _, _, _, _, _⟩) (v := ?_) rfl (by kernel_rfl) (by kernel_rfl) (by kernel_rfl) (by kernel_rfl) (fun _ _ _ h => h) (Or.inl ⟨by rfl, ?hyJ_863⟩) hS0 ?restJ_863
          case hyJ_863 => (intro W hW; have q4 := hW.1.cell 0 _ rfl; have p0 := hW.2.cell 0 _ rfl; have p1 := hW.2.cell 1 _ rfl; have p2 := hW.2.cell 2 _ rfl; go_simp; try with_reducible rfl)
          try simp only [Act.put, List.setIfInBounds_toArray, List.set_cons_zero, List.set_cons_succ]
          refine RG.takeF 4 (oi := ⟨some 55, _, _, _, _, _⟩) (v := ?_) rfl (by kernel_rfl) (by kernel_rfl) (by kernel_rfl) (by kernel_rfl) (fun _ _ _ h => h) (Or.inl ⟨by rfl, ?hyJ_874⟩) hS0 ?restJ_874
          case hyJ_874 => (intro W hW; have q4 := hW.1.cell 0 _ rfl; have p0 := hW.2.cell 0 _ rfl; have p1 := hW.2.cell 1 _ rfl; have p2 := hW.2.cell 2 _ rfl; go_simp; try with_reducible rfl)
          try simp only [Act.put, List.setIfInBounds_toArray, List.set_cons_zero, List.set_cons_succ]
          refine RG.takeF 5 (oi := ⟨some 56, _, _, _, _, _⟩) (v := ?_) rfl (by kernel_rfl) (by kernel_rfl) (by kernel_rfl) (by kernel_rfl) (fun _ _ _ h => h) (Or.inl ⟨by rfl, ?hyJ_885⟩) hS0 ?restJ_885
          case hyJ_885 => (intro W hW; have q4 := hW.1.cell 0 _ rfl; have p0 := hW.2.cell 0 _ rfl; have p1 := hW.2.cell 1 _ rfl; have p2 := hW.2.cell 2 _ rfl; go_simp; try with_reducible rfl)
          try simp only [Act.put, List.setIfInBounds_toArray, List.set_cons_zero, List.set_cons_succ]
          refine RG.oneF 6 (by kernel_rfl) (by decide) ?_
          refine RG.wpOp_plain rfl rfl fun K hK => ?_
          go_simp
          refine hK _ _ ⟨⟨hH5.out.alloc _, hV5.out.alloc _⟩, ?_⟩
          clear hK K
          try simp only [Act.put, List.setIfInBounds_toArray, List.set_cons_zero, List.set_cons_succ]
          obtain ⟨na, nc, w6, r, hH6, hnt, hap⟩ := arr_app hH5.out hO5.out (HAL.out) ⟨x1, x2, x3⟩
          rw [EQ.out] at r hap
          have hV6 := hV5.out.of (hnt _ hV5.out.lt (fun e => HV4nb.out _ e rfl))
          refine RG.oneF 7 (by kernel_rfl) (by decide) ?_
          refine RG.wpOp_plain rfl rfl fun K hK => ?_
          refine RG.wp_append_run _ _ 55 55 rfl rfl rfl r ?_
          refine hK _ _ ⟨⟨hH6, hV6⟩, ?_⟩
          clear hK K
          try simp only [Act.put, List.setIfInBounds_toArray, List.set_cons_zero, List.set_cons_succ]
          refine RG.oneF 8 (by kernel_rfl) (by decide) ?_
          refine RG.wpOp_plain rfl rfl fun K hK => ?_
          go_simp
          refine hK _ _ ⟨⟨hH6, hV6⟩, ?_⟩
          clear hK K
          try simp only [Act.put, List.setIfInBounds_toArray, List.set_cons_zero, List.set_cons_succ]
          refine RG.oneF 9 (by kernel_rfl) (by decide) ?_
          refine RG.wpOp_plain rfl rfl fun K hK => ?_
          go_simp
          refine hK _ _ ⟨⟨hH6, hV6⟩, ?_⟩
          clear hK K
          try simp only [Act.put, List.setIfInBounds_toArray, List.set_cons_zero, List.set_cons_succ]
          have c3 := hH6.cell 0 _ rfl
          have z3 := hH6.frozen 0
          refine RG.lastF (by kernel_rfl) (by kernel_rfl) ?_
          refine RG.wpOp_wanted rfl (by rfl) fun K hK => ?_
          go_simp
          refine hK _ _ ?_
          clear hK K
          try simp only [Act.put, List.setIfInBounds_toArray, List.set_cons_zero, List.set_cons_succ]
          have HPJ := Lib.hid hap
          clear c3 z3 r hH6 hnt hap hV6 hS0
          have HT5 := Lib.hid (HA4.out.below HB5J.out)
          generalize w6.setCell ⟨tb, 0, none⟩ (Value.slice na (q + 1) nc) = w7 at HPJ ⊢
          have HT7' := Lib.hid (HT5.out.app HPJ.out)
          have hc7 := HPJ.out.hd.cell 0 _ rfl
          have hcr := HA.out.hd.cell 0 _ rfl
          clear hH5 hV5 hO5
          have HREL : Hid (∃ (f : Nat) (A' : List Val) (R' : Pairs) (X' : Nat → Prop) (av' : Value), THa w7 X' tb tp mp A' R' M av' d Y ∧ (∀ b, X' b → X b ∨ w.heap.size ≤ b) ∧ Chg X w w7 ∧ pull f A' R' = P ∧ R'.length ≤ f ∧ A'.length + R'.length ≤ K) := by
            obtain ⟨f', rfl⟩ : ∃ f', f = f' + 1 := ⟨f - 1, by have h1 := HF.out.2.1; have h2 := HDL.out; omega⟩
            have hp := pull_go f' (A := A') (R := R') (by rw [EQ.out, HXV.out]; exact HX0.out)
            rw [EQ.out, HXV.out] at hp
            refine Lib.hid ⟨f', _, _, _, _, HT7'.out, fun b hb => ?_, ?_, by rw [← hp]; exact HF.out.1, by have h1 := HF.out.2.1; have h2 := HDL.out; omega, by have h1 := HF.out.2.2; have h2 := HDL.out; rw [List.length_append, List.length_singleton]; omega⟩
            · rcases hb with hb | hb
              · exact HXX.out b hb
              · have h1 := HCC.out.size; have h2 := HB3.out.size; have h3 := HC9.out.size; have h4 := HB5J.out.size; exact .inr (by omega)
            · have c1 : Chg X w w3 := HCC.out.trans (Chg.ofBelow (B := fun _ => False) HB3.out) (fun b _ h => h.elim)
              have c2 : Chg X w w4 := c1.trans HC9.out (fun b hb h => (HTW.out.ownY b h).1)
              have c3 : Chg X w w5J := c2.trans (Chg.ofBelow (B := fun _ => False) HB5J.out) (fun b _ h => h.elim)
              exact c3.trans (HT5.out.appC HPJ.out) (fun b hb h => Or.elim (HXX.out b h) id (fun h2 => absurd h2 (by omega)))
          go_roundw
          case rel => first | exact HREL | ((repeat apply Exists.intro); exact ⟨HREL, rfl⟩)
          case measure =>
            rw [hc7, hcr]
            show K - (q + 1) < K - q
            have h1 := HF.out.2.2; have h2 := HDL.out; have h3 := EQ.out
            omega
end
end Go.Proofs.Ytmjfmfelbmbniaa
