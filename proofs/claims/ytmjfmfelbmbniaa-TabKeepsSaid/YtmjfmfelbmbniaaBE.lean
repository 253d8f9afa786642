/- Texts of layers 12 to 14, one behind the other: plain models, what stands in memory, the functions' contracts. -/
import Derived.Test.YtmjfmfelbmbniaaBD
/- Layer 14: Set. -/
namespace Go.Proofs.Ytmjfmfelbmbniaa
open Go.RowKit Go.Maps HK ShM
set_option linter.unusedVariables false
set_option linter.unusedSimpArgs false
open RH
section
variable {w w' w5 : World} {X Y B : Nat → Prop} {tb i M N d : Nat} {tp mp av av' sv : Value} {T : List Sh} {A S : List Val} {R : Pairs} {s : Tab} {D F : Int} {x : Val}
theorem flatV_append (l r : List Val) : flatV (l ++ r) = flatV l ++ flatV r := by unfold flatV; exact List.flatMap_append
theorem OwnV.cut {base g cap n : Nat} {l : List Val} (h : OwnV w base (.slice (some ⟨g, 0, none⟩) l.length cap) l) (hn : n ≤ l.length) : OwnV w base (.slice (some ⟨g, 0, none⟩) n cap) (l.take n) := by
  obtain ⟨h1, h2⟩ := h
  rcases h2 with ⟨h2, _⟩ | ⟨g', cap', cur, h2, h3, h4, h5, h6, h7, h8⟩
  · cases h2
  · cases h2
    have hl : (l.take n).length = n := by rw [List.length_take]; omega
    unfold OwnV
    rw [hl]
    refine ⟨by rw [flatV_len, hl], .inr ⟨g, cap, cur, rfl, h3, h4, by omega, h6, h7, ?_⟩⟩
    have e : flatV l = flatV (l.take n) ++ flatV (l.drop n) := by rw [← flatV_append, List.take_append_drop]
    have h9 : cur.toList.take (n * 3) = (cur.toList.take (l.length * 3)).take (n * 3) := by rw [List.take_take]; congr 1; omega
    rw [h9, h8, e, List.take_append_of_le_length (by rw [flatV_len, hl]; omega), List.take_of_length_le (by rw [flatV_len, hl]; omega)]
/-- The table's fields, and what it is when only its array changes. -/
theorem TAt.headX (h : TAt w X tb tp mp T s N) : ∃ av sv rp, Blk w tb 202 [av, tp, .int .i64 (if s.h then 2 else 1), .int .i64 (if s.h then -1 else (s.i : Int)), sv, rp, mp] ∧ OwnV w 0 av s.A ∧ (∀ g, av.ownBlock = some g → X g ∧ g ≠ tb) ∧
    ∀ (w' : World) (A' : List Val) (av' : Value), Blk w' tb 202 [av', tp, .int .i64 (if s.h then 2 else 1), .int .i64 (if s.h then -1 else (s.i : Int)), sv, rp, mp] → OwnV w' 0 av' A' → (∀ g, av'.ownBlock = some g → av.ownBlock = some g) → w.heap.size ≤ w'.heap.size →
      (∀ b, X b → b ≠ tb → av.ownBlock ≠ some b → w'.heap[b]? = w.heap[b]?) → A'.length ≤ s.A.length → TAt w' X tb tp mp T { s with A := A' } N := by
  obtain ⟨h0, ⟨h1, S, av, sv, h2, h3⟩ | ⟨h1, h2, av, d, Y, h3⟩⟩ := h
  · refine ⟨av, sv, .pointer none, by rw [h1]; exact h2.hd, h2.arr, fun g hg => ⟨h2.ownA g hg, fun e => blk_ne_row h2.hd h2.arr hg (by decide) e.symm⟩, fun w' A' av' a1 a2 a3 a4 a5 a6 => ?_⟩
    rw [h1] at a1
    refine ⟨Nat.le_trans (Nat.add_le_add_right a6 _) h0, .inl ⟨h1, S, av', sv, { h2 with hd := a1, arr := a2, slo := h2.slo.of (fun g hg => a5 g (h2.ownS g hg) (fun e => blk_ne_row h2.hd h2.slo hg (by decide) e.symm) (fun e => h2.ne g e hg)), ne := fun g hg => h2.ne g (a3 g hg), ownA := fun g hg => h2.ownA g (a3 g hg), lt := fun b hb => Nat.lt_of_lt_of_le (h2.lt b hb) a4 }, h3⟩⟩
  · refine ⟨av, .slice none 0 0, .pointer (some ⟨d, 0, none⟩), by rw [h1]; exact h3.hd, h3.arr, fun g hg => ⟨h3.ownA g hg, fun e => blk_ne_row h3.hd h3.arr hg (by decide) e.symm⟩, fun w' A' av' a1 a2 a3 a4 a5 a6 => ?_⟩
    rw [h1] at a1
    exact ⟨Nat.le_trans (Nat.add_le_add_right a6 _) h0, .inr ⟨h1, h2, av', d, Y, { h3 with hd := a1, arr := a2, dict := h3.dict.of a4 (fun b hb => a5 b (h3.ownY b hb).1 (h3.ownY b hb).2.1 (h3.ownY b hb).2.2), ownA := fun g hg => h3.ownA g (a3 g hg), ownY := fun b hb => ⟨(h3.ownY b hb).1, (h3.ownY b hb).2.1, fun e => (h3.ownY b hb).2.2 (a3 b e)⟩, lt := fun b hb => Nat.lt_of_lt_of_le (h3.lt b hb) a4 }⟩⟩
theorem trim_nil : trim [] = [] := rfl
theorem trim_snoc (l : List Val) (v : Val) : trim (l ++ [v]) = if v.k = 0 then trim l else l ++ [v] := by
  unfold trim
  rw [List.reverse_append, List.reverse_cons, List.reverse_nil, List.nil_append, List.singleton_append, List.dropWhile_cons]
  by_cases h : v.k = 0
  · rw [if_pos (by simpa using h), if_pos h]
  · rw [if_neg (by simpa using h), if_neg h]; simp
theorem growM_spec {k o : Val} (hk : keyV k = k) (hb : k.bad = false) : growM s k o = (if hasK s.R k then 0 else 1, { s with A := (pull s.R.length (s.A ++ [o]) (if hasK s.R k then dropA s.R k else s.R)).1, R := (pull s.R.length (s.A ++ [o]) (if hasK s.R k then dropA s.R k else s.R)).2 }) := by
  have hh : hasK s.R k = (getA s.R k).isSome := by unfold hasK; rw [hb, hk]; rfl
  unfold growM
  rw [hh]
  cases hg : getA s.R k with
  | some v => rfl
  | none =>
    have : dropA s.R k = s.R := by
      unfold dropA
      refine List.filter_eq_self.2 (fun p hp => ?_)
      unfold getA at hg
      rw [Option.map_eq_none_iff, List.find?_eq_none] at hg
      simpa using hg p hp
    rw [this]; rfl
theorem pull_len : ∀ (f : Nat) (A : List Val) (R : Pairs), (pull f A R).1.length + (pull f A R).2.length ≤ A.length + R.length
  | 0, A, R => Nat.le_refl _
  | f + 1, A, R => by
    by_cases h : (getV R (intV (A.length + 1))).k = 0
    · rw [pull_stop _ h]; exact Nat.le_refl _
    · rw [pull_go f h]
      have h1 := pull_len f (A ++ [getV R (intV (A.length + 1))]) (dropA R (intV (A.length + 1)))
      have h2 : (dropA R (intV ((A.length : Int) + 1))).length < R.length := dropA_len (getV_some h).2
      rw [List.length_append, List.length_singleton] at h1
      omega
theorem tgrow_calls (h : TAt w X tb tp mp T s N) (ht : Tr w B tp D F T) (hB : ∀ b, B b → ¬ X b) (hN : N ≤ 100000) (o : Val) :
    Calls Try.prog 120 #[.pointer (some ⟨tb, 0, none⟩), Val.v (intV (s.A.length + 1)), o.v] w fun e w' => e = .returned (.int .i64 (growM s (intV (s.A.length + 1)) o).1) ∧ TRes w w' X B tb tp mp D F T (growM s (intV (s.A.length + 1)) o).2 (N + 1) := by
  rw [growM_spec (k := intV (s.A.length + 1)) rfl rfl]
  have hl := pull_len s.R.length (s.A ++ [o]) (if hasK s.R (intV (s.A.length + 1)) then dropA s.R (intV (s.A.length + 1)) else s.R)
  have hr : (if hasK s.R (intV (s.A.length + 1)) then dropA s.R (intV (s.A.length + 1)) else s.R).length ≤ s.R.length := by
    split
    · exact List.length_filter_le _ _
    · exact Nat.le_refl _
  rw [List.length_append, List.length_singleton] at hl
  obtain ⟨o1, o2, o3⟩ := o
  obtain ⟨h0, ⟨h1, S, av, sv, h2, h3⟩ | ⟨h1, h2, av, d, Y, h3⟩⟩ := h
  · have hk : hasK s.R (intV (s.A.length + 1)) = false := by rw [h3]; exact hasK_other (show (2 : Int) ≠ 3 by decide)
    have hk2 : (getV s.R (intV ((s.A ++ [(⟨o1, o2, o3⟩ : Val)]).length + 1))).k = 0 := by rw [h3, getV_miss (hasK_other (show (2 : Int) ≠ 3 by decide))]
    rw [hk, if_neg (show ¬ (false = true) by decide)] at hl ⊢
    rw [if_neg (show ¬ (false = true) by decide)]
    rw [pull_stop _ hk2] at hl ⊢
    refine (tgrow_sh h2 (by omega) 2 (s.A.length + 1) Val.e o1 o2 o3).mono ?_
    rintro e w' ⟨rfl, X', av', h5, h6, h7⟩
    exact ⟨rfl, TRes.own ⟨by show (s.A ++ [(⟨o1, o2, o3⟩ : Val)]).length + s.R.length ≤ N + 1; rw [List.length_append, List.length_singleton]; omega, .inl ⟨h1, S, _, _, h5, h3⟩⟩ ht hB h6 h7⟩
  · refine (tgrow_ha h3 (by omega) 2 (s.A.length + 1) Val.e o1 o2 o3 (Nat.zero_le _) rfl).mono ?_
    rintro e w' ⟨rfl, X', av', h5, h6, h7⟩
    exact ⟨rfl, TRes.own ⟨Nat.le_trans hl (by omega), .inr ⟨h1, h2, _, _, _, h5.mono (by omega)⟩⟩ ht hB h6 h7⟩
theorem tset_nil (x v : Val) (w : World) : Calls Try.prog 63 #[.pointer none, x.v, v.v] w fun e w' => e = .returned (.tuple #[.int .i64 0, .int .i64 19]) ∧ Below w.heap.size w w' := by
  have HB0 : Hid (Below w.heap.size w ((w.alloc (.cells #[.int .i64 x.k, .int .i64 x.n, .string x.s] 57)).alloc (.cells #[.int .i64 v.k, .int .i64 v.n, .string v.s] 57))) := Lib.hid (by (repeat (first | exact Below.refl _ _ | (refine Below.alloc ?_ (by simp <;> omega) _))))
  obtain ⟨x1, x2, x3⟩ := x
  obtain ⟨v1, v2, v3⟩ := v
  go_enter Try.func63, Try.ntmps63
  go_wp2
  go_ret2
  exact ⟨rfl, HB0.out⟩
set_option maxHeartbeats 8000000 in
set_option maxRecDepth 20000 in
theorem tset_bad (x v : Val) (hb : x.bad = true) (w : World) : Calls Try.prog 63 #[.pointer (some ⟨tb, 0, none⟩), x.v, v.v] w fun e w' => e = .returned (.tuple #[.int .i64 0, .int .i64 15]) ∧ Below w.heap.size w w' := by
  have hke : keyE x = 15 := by unfold keyE; rw [hb]; rfl
  obtain ⟨x1, x2, x3⟩ := x
  obtain ⟨v1, v2, v3⟩ := v
  have HB0 : Hid (Below w.heap.size w ((w.alloc (.cells #[.int .i64 x1, .int .i64 x2, .string x3] 57)).alloc (.cells #[.int .i64 v1, .int .i64 v2, .string v3] 57))) := Lib.hid (by (repeat (first | exact Below.refl _ _ | (refine Below.alloc ?_ (by simp <;> omega) _))))
  have HK0 : Hid (Blk ((w.alloc (.cells #[.int .i64 x1, .int .i64 x2, .string x3] 57)).alloc (.cells #[.int .i64 v1, .int .i64 v2, .string v3] 57)) w.heap.size 57 [.int .i64 x1, .int .i64 x2, .string x3]) := Lib.hid ((Blk.new w [.int .i64 x1, .int .i64 x2, .string x3] 57).alloc _)
  have HV0 : Hid (Blk ((w.alloc (.cells #[.int .i64 x1, .int .i64 x2, .string x3] 57)).alloc (.cells #[.int .i64 v1, .int .i64 v2, .string v3] 57)) (w.heap.size + 1) 57 [.int .i64 v1, .int .i64 v2, .string v3]) := Lib.hid (by simpa using Blk.new (w.alloc (.cells #[.int .i64 x1, .int .i64 x2, .string x3] 57)) [.int .i64 v1, .int .i64 v2, .string v3] 57)
  have HKC := Lib.hid (fun (W : World) => key_calls ⟨x1, x2, x3⟩ W)
  have HOC := Lib.hid (fun (W : World) => own_calls ⟨v1, v2, v3⟩ W)
  obtain ⟨⟨k1, k2, k3⟩, hkv⟩ : ∃ k, keyV ⟨x1, x2, x3⟩ = k := ⟨_, rfl⟩
  rw [hkv, hke] at HKC
  clear hkv hke hb
  go_enter Try.func63, Try.ntmps63
  go_wp2_with (go_at_call 43; go_loud ((with_reducible refine (HKC.out _).mono ?_); rintro e w1 ⟨rfl, hb1⟩; have HB1 := Lib.hid (HB0.out.trans (hb1.mono HB0.out.size)); have HK1 := Lib.hid (HK0.out.of (hb1.block _ HK0.out.lt)); have HV1 := Lib.hid (HV0.out.of (hb1.block _ HV0.out.lt)); clear hb1; have k0 := HK1.out.cell 0 _ rfl; have k1' := HK1.out.cell 1 _ rfl; have k2' := HK1.out.cell 2 _ rfl; have z0 := HK1.out.frozen 0; have z1 := HK1.out.frozen 1; have z2 := HK1.out.frozen 2))
  go_ret2
  exact ⟨rfl, ((HB1.out.setCell (Nat.le_refl _) _).setCell (Nat.le_refl _) _).setCell (Nat.le_refl _) _⟩
set_option maxHeartbeats 8000000 in
set_option maxRecDepth 20000 in
theorem tset_in (h : TAt w X tb tp mp T s N) (x v : Val) (hb : x.bad = false) (hN : N ≤ 100000) (hi : inA s.A (keyV x) = true) : Calls Try.prog 63 #[.pointer (some ⟨tb, 0, none⟩), x.v, v.v] w fun e w' => e = .returned (.tuple #[.int .i64 0, .int .i64 0]) ∧ TAt w' X tb tp mp T { s with A := trim (s.A.set ((keyV x).n - 1).toNat v.own) } N ∧ Chg X w w' := by
  have hke : keyE x = 0 := by unfold keyE; rw [hb]; rfl
  have HT := Lib.hid h
  obtain ⟨av, sv, rp, hd, har, hax, hst⟩ := h.headX
  obtain ⟨sa, sc, hsv, hsc1, hsc2⟩ := har.form
  subst hsv
  have hAl : s.A.length ≤ 1000000 := by have := h.1; omega
  have HAR0 : ∀ W, Below w.heap.size w W → Calls Try.prog 119 #[.pointer (some ⟨tb, 0, none⟩), (keyV x).v] W fun e w' => e = .returned (.tuple #[.int .i64 (if inA s.A (keyV x) then (keyV x).n - 1 else 0), .bool (inA s.A (keyV x))]) ∧ Below W.heap.size W w' := fun W hW => array1_calls sa s.A.length sc (keyV x) ((hd.of (hW.block tb hd.lt)).cell 0 _ rfl) (by omega) s.A rfl
  rw [hi] at HAR0
  have HAR := Lib.hid HAR0
  obtain ⟨x1, x2, x3⟩ := x
  obtain ⟨v1, v2, v3⟩ := v
  obtain ⟨⟨k1, k2, k3⟩, hkv⟩ : ∃ k, keyV ⟨x1, x2, x3⟩ = k := ⟨_, rfl⟩
  obtain ⟨⟨o1, o2, o3⟩, hov⟩ : ∃ o, Val.own ⟨v1, v2, v3⟩ = o := ⟨_, rfl⟩
  have HB0 : Hid (Below w.heap.size w ((w.alloc (.cells #[.int .i64 x1, .int .i64 x2, .string x3] 57)).alloc (.cells #[.int .i64 v1, .int .i64 v2, .string v3] 57))) := Lib.hid (by (repeat (first | exact Below.refl _ _ | (refine Below.alloc ?_ (by simp <;> omega) _))))
  have HK0 : Hid (Blk ((w.alloc (.cells #[.int .i64 x1, .int .i64 x2, .string x3] 57)).alloc (.cells #[.int .i64 v1, .int .i64 v2, .string v3] 57)) w.heap.size 57 [.int .i64 x1, .int .i64 x2, .string x3]) := Lib.hid ((Blk.new w [.int .i64 x1, .int .i64 x2, .string x3] 57).alloc _)
  have HV0 : Hid (Blk ((w.alloc (.cells #[.int .i64 x1, .int .i64 x2, .string x3] 57)).alloc (.cells #[.int .i64 v1, .int .i64 v2, .string v3] 57)) (w.heap.size + 1) 57 [.int .i64 v1, .int .i64 v2, .string v3]) := Lib.hid (by simpa using Blk.new (w.alloc (.cells #[.int .i64 x1, .int .i64 x2, .string x3] 57)) [.int .i64 v1, .int .i64 v2, .string v3] 57)
  have HKC := Lib.hid (fun (W : World) => key_calls ⟨x1, x2, x3⟩ W)
  have HOC := Lib.hid (fun (W : World) => own_calls ⟨v1, v2, v3⟩ W)
  rw [hkv, hke] at HKC
  rw [hov] at HOC
  rw [hkv] at hi HAR ⊢
  rw [hov]
  rw [if_pos rfl] at HAR
  unfold inA at hi
  simp only [Bool.and_eq_true, decide_eq_true_eq] at hi
  obtain ⟨⟨hi1, hi2⟩, hi3⟩ := hi
  obtain ⟨j, hj⟩ : ∃ j : Nat, k2 - 1 = (j : Int) := ⟨(k2 - 1).toNat, by have : 1 ≤ k2 := hi2; omega⟩
  have hjn : (k2 - 1).toNat = j := by omega
  show Calls Try.prog 63 _ w fun e w' => _ ∧ TAt w' X tb tp mp T { s with A := trim (s.A.set (k2 - 1).toNat ⟨o1, o2, o3⟩) } N ∧ _
  rw [hjn]
  have hjl : j < s.A.length := by have h3 : k2 ≤ (s.A.length : Int) := hi3; omega
  have HAR : Hid (∀ W, Below w.heap.size w W → Calls Try.prog 119 #[.pointer (some ⟨tb, 0, none⟩), Val.v ⟨k1, k2, k3⟩] W fun e w' => e = .returned (.tuple #[.int .i64 (j : Nat), .bool true]) ∧ Below W.heap.size W w') := Lib.hid (by have := HAR.out; rw [show ((⟨k1, k2, k3⟩ : Val).n - 1) = (j : Int) from hj] at this; exact this)
  obtain ⟨u, hu0⟩ : ∃ u, s.A[j]? = some u := ⟨_, List.getElem?_eq_getElem hjl⟩
  obtain ⟨g, cap, he, _⟩ := har.cell hu0
  obtain rfl : sa = some ⟨g, 0, none⟩ := by cases he; rfl
  have HD := Lib.hid hd
  have HO := Lib.hid har
  have HAX := Lib.hid hax
  have HST := Lib.hid hst
  have HJ := Lib.hid hu0
  have HBD := Lib.hid (And.intro hAl hjl)
  obtain ⟨m, hm⟩ : ∃ m, m = s.A.length := ⟨_, rfl⟩
  have EM := Lib.hid hm
  have hj0 : (0 : Int) ≤ (j : Int) := by omega
  have hj1 : (j : Int) < (m : Int) := by omega
  have hj2 : j < m := by omega
  obtain ⟨A1, hA1⟩ : ∃ A1, s.A.set j ⟨o1, o2, o3⟩ = A1 := ⟨_, rfl⟩
  have hA1l : A1.length = m := by rw [← hA1, List.length_set, hm]
  have HA1 := Lib.hid hA1
  have HA1l := Lib.hid hA1l
  rw [hA1]
  clear hA1 hA1l
  have htg : tb ≠ g := fun e => (HAX.out g rfl).2 e.symm
  have HTG := Lib.hid htg
  have HSC : Hid (m ≤ sc) := Lib.hid (by rw [hm]; exact hsc1)
  have hm20 : m ≤ 1000000 := by omega
  clear h hd har hax hst hu0 he HAR0 hkv hov hke hb hi1 hi2 hi3 hj hjn hAl hjl hm hsc1 hsc2 htg
  go_enter Try.func63, Try.ntmps63
  go_upto_region 4 with (go_at_call 43; go_loud ((with_reducible refine (HKC.out _).mono ?_); rintro e w1 ⟨rfl, hb1⟩; have HB1 := Lib.hid (HB0.out.trans (hb1.mono HB0.out.size)); have HK1 := Lib.hid (HK0.out.of (hb1.block _ HK0.out.lt)); have HV1 := Lib.hid (HV0.out.of (hb1.block _ HV0.out.lt)); clear hb1; have k0 := HK1.out.cell 0 _ rfl; have k1' := HK1.out.cell 1 _ rfl; have k2' := HK1.out.cell 2 _ rfl; have z0 := HK1.out.frozen 0; have z1 := HK1.out.frozen 1; have z2 := HK1.out.frozen 2))
  obtain ⟨w2, hw2⟩ : ∃ z, z = (((w1.setCell ⟨w.heap.size, 0, none⟩ (.int .i64 k1)).setCell ⟨w.heap.size, 1, none⟩ (.int .i64 k2)).setCell ⟨w.heap.size, 2, none⟩ (.string k3)) := ⟨_, rfl⟩
  have HB2 : Hid (Below w.heap.size w w2) := Lib.hid (by rw [hw2]; exact ((HB1.out.setCell (Nat.le_refl _) _).setCell (Nat.le_refl _) _).setCell (Nat.le_refl _) _)
  have HK2 : Hid (Blk w2 w.heap.size 57 [.int .i64 k1, .int .i64 k2, .string k3]) := Lib.hid (by rw [hw2]; exact ((HK1.out.setSame 0 (.int .i64 k1)).setSame 1 (.int .i64 k2)).setSame 2 (.string k3))
  have hne1 : w.heap.size + 1 ≠ w.heap.size := by omega
  have HV2 : Hid (Blk w2 (w.heap.size + 1) 57 [.int .i64 v1, .int .i64 v2, .string v3]) := Lib.hid (by rw [hw2]; exact (((HV1.out.setOther (a := ⟨w.heap.size, 0, none⟩) hne1 _).setOther (a := ⟨w.heap.size, 1, none⟩) hne1 _).setOther (a := ⟨w.heap.size, 2, none⟩) hne1 _))
  rw [← hw2]
  clear hw2 k0 k1' k2' z0 z1 z2 HB1 HK1 HV1 HB0 HK0 HV0
  have v0 := HV2.out.cell 0 _ rfl
  have v1' := HV2.out.cell 1 _ rfl
  have v2' := HV2.out.cell 2 _ rfl
  have hu := Try.underlying57
  go_upto_region 7 with (go_at_call 59; go_loud ((with_reducible refine (HOC.out _).mono ?_); rintro e w3 ⟨rfl, hb1⟩; have HB3 := Lib.hid (HB2.out.trans (hb1.mono HB2.out.size)); have HK3 := Lib.hid (HK2.out.of (hb1.block _ HK2.out.lt)); have HV3 := Lib.hid (HV2.out.of (hb1.block _ HV2.out.lt)); clear hb1; have k0 := HV3.out.cell 0 _ rfl; have k1' := HV3.out.cell 1 _ rfl; have k2' := HV3.out.cell 2 _ rfl; have z0 := HV3.out.frozen 0; have z1 := HV3.out.frozen 1; have z2 := HV3.out.frozen 2))
  clear v0 v1' v2'
  obtain ⟨w4, hw4⟩ : ∃ z, z = (((w3.setCell ⟨w.heap.size + 1, 0, none⟩ (.int .i64 o1)).setCell ⟨w.heap.size + 1, 1, none⟩ (.int .i64 o2)).setCell ⟨w.heap.size + 1, 2, none⟩ (.string o3)) := ⟨_, rfl⟩
  have HB4 : Hid (Below w.heap.size w w4) := Lib.hid (by rw [hw4]; exact ((HB3.out.setCell (Nat.le_succ _) _).setCell (Nat.le_succ _) _).setCell (Nat.le_succ _) _)
  have HV4 : Hid (Blk w4 (w.heap.size + 1) 57 [.int .i64 o1, .int .i64 o2, .string o3]) := Lib.hid (by rw [hw4]; exact ((HV3.out.setSame 0 (.int .i64 o1)).setSame 1 (.int .i64 o2)).setSame 2 (.string o3))
  have hne2 : w.heap.size ≠ w.heap.size + 1 := by omega
  have HK4 : Hid (Blk w4 w.heap.size 57 [.int .i64 k1, .int .i64 k2, .string k3]) := Lib.hid (by rw [hw4]; exact (((HK3.out.setOther (a := ⟨w.heap.size + 1, 0, none⟩) hne2 _).setOther (a := ⟨w.heap.size + 1, 1, none⟩) hne2 _).setOther (a := ⟨w.heap.size + 1, 2, none⟩) hne2 _))
  rw [← hw4]
  clear hw4 k0 k1' k2' z0 z1 z2 HB3 HK3 HV3 HB2 HK2 HV2 hne1 hne2
  have v0 := HK4.out.cell 0 _ rfl
  have v1' := HK4.out.cell 1 _ rfl
  have v2' := HK4.out.cell 2 _ rfl
  go_upto_region 9 with (go_at_call 119; go_loud ((with_reducible refine (HAR.out _ HB4.out).mono ?_); rintro e w5 ⟨rfl, hb1⟩; have HB5 := Lib.hid (HB4.out.trans (hb1.mono HB4.out.size)); have HK5 := Lib.hid (HK4.out.of (hb1.block _ HK4.out.lt)); have HV5 := Lib.hid (HV4.out.of (hb1.block _ HV4.out.lt)); clear hb1))
  clear v0 v1' v2'
  have hB0 : Below w5.heap.size w5 ({ w5 with drawn := w5.drawn + 1 } : World) := ⟨rfl, rfl, rfl, Nat.le_refl _, fun _ _ => rfl⟩
  refine RG.region_F (Below w5.heap.size w5) 7 (by kernel_rfl) ?_
  have hS0 := hB0
  generalize ({ w5 with drawn := w5.drawn + 1 } : World) = w6 at hS0 hB0 ⊢
  have q4 : ∀ W, Below w5.heap.size w5 W → W.cell? ⟨tb, 0, none⟩ = some (.slice (some ⟨g, 0, none⟩) m sc) := fun W hW => by rw [EM.out]; exact (HD.out.of ((HB5.out.trans (hW.mono HB5.out.size)).block tb HD.out.lt)).cell 0 _ rfl
  have p0 : ∀ W, Below w5.heap.size w5 W → W.cell? ⟨w.heap.size + 1, 0, none⟩ = some (.int .i64 o1) := fun W hW => (HV5.out.of (hW.block _ HV5.out.lt)).cell 0 _ rfl
  have p1 : ∀ W, Below w5.heap.size w5 W → W.cell? ⟨w.heap.size + 1, 1, none⟩ = some (.int .i64 o2) := fun W hW => (HV5.out.of (hW.block _ HV5.out.lt)).cell 1 _ rfl
  have p2 : ∀ W, Below w5.heap.size w5 W → W.cell? ⟨w.heap.size + 1, 2, none⟩ = some (.string o3) := fun W hW => (HV5.out.of (hW.block _ HV5.out.lt)).cell 2 _ rfl
  refine RG.takeF 0 (oi := ⟨some 30, _, _, _, _, _⟩) (v := ?_) rfl (by kernel_rfl) (by kernel_rfl) (by kernel_rfl) (by kernel_rfl) (fun _ _ _ h => h) (Or.inl ⟨by rfl, ?hyA1⟩) hS0 ?restA1
  case hyA1 => (intro W hW; (try dsimp only at hW); go_simp; try with_reducible rfl)
  try simp only [Act.put, List.setIfInBounds_toArray, List.set_cons_zero, List.set_cons_succ]
  refine RG.takeF 1 (oi := ⟨some 31, _, _, _, _, _⟩) (v := ?_) rfl (by kernel_rfl) (by kernel_rfl) (by kernel_rfl) (by kernel_rfl) (fun _ _ _ h => h) (Or.inl ⟨by rfl, ?hyA2⟩) hS0 ?restA2
  case hyA2 => (intro W hW; (try dsimp only at hW); go_simp; try with_reducible rfl)
  try simp only [Act.put, List.setIfInBounds_toArray, List.set_cons_zero, List.set_cons_succ]
  refine RG.takeF 2 (oi := ⟨some 32, _, _, _, _, _⟩) (v := ?_) rfl (by kernel_rfl) (by kernel_rfl) (by kernel_rfl) (by kernel_rfl) (fun _ _ _ h => h) (Or.inl ⟨by rfl, ?hyA3⟩) hS0 ?restA3
  case hyA3 => (intro W hW; (try dsimp only at hW); go_simp; try with_reducible rfl)
  try simp only [Act.put, List.setIfInBounds_toArray, List.set_cons_zero, List.set_cons_succ]
  refine RG.takeF 3 (oi := ⟨some 33, _, _, _, _, _⟩) (v := ?_) rfl (by kernel_rfl) (by kernel_rfl) (by kernel_rfl) (by kernel_rfl) (fun _ _ _ h => h) (Or.inl ⟨by rfl, ?hyA4⟩) hS0 ?restA4
  case hyA4 => (intro W hW; (try dsimp only at hW); go_simp; try with_reducible rfl)
  try simp only [Act.put, List.setIfInBounds_toArray, List.set_cons_zero, List.set_cons_succ]
  refine RG.takeF 4 (oi := ⟨some 34, _, _, _, _, _⟩) (v := ?_) rfl (by kernel_rfl) (by kernel_rfl) (by kernel_rfl) (by kernel_rfl) (fun _ _ _ h => h) (Or.inl ⟨by rfl, ?hyA5⟩) hS0 ?restA5
  case hyA5 => (intro W hW; (try dsimp only at hW); go_simp; try with_reducible rfl)
  try simp only [Act.put, List.setIfInBounds_toArray, List.set_cons_zero, List.set_cons_succ]
  refine RG.takeF 5 (oi := ⟨some 35, _, _, _, _, _⟩) (v := ?_) rfl (by kernel_rfl) (by kernel_rfl) (by kernel_rfl) (by kernel_rfl) (fun _ _ _ h => h) (Or.inl ⟨by rfl, ?hyA6⟩) hS0 ?restA6
  case hyA6 => (intro W hW; (try dsimp only at hW); go_simp; try with_reducible rfl)
  try simp only [Act.put, List.setIfInBounds_toArray, List.set_cons_zero, List.set_cons_succ]
  refine RG.takeF 6 (oi := ⟨some 36, _, _, _, _, _⟩) (v := ?_) rfl (by kernel_rfl) (by kernel_rfl) (by kernel_rfl) (by kernel_rfl) (fun _ _ _ h => h) (Or.inl ⟨by rfl, ?hyA7⟩) hS0 ?restA7
  case hyA7 => (intro W hW; (try dsimp only at hW); go_simp; try with_reducible rfl)
  try simp only [Act.put, List.setIfInBounds_toArray, List.set_cons_zero, List.set_cons_succ]
  have hB6 := HB5.out.trans (hS0.mono HB5.out.size)
  have HB6 := Lib.hid hB6
  have hO6 := HO.out.below hB6
  have HO6 := Lib.hid hO6
  have HD6 := Lib.hid (HD.out.of (hB6.block tb HD.out.lt))
  obtain ⟨g', cap', he, hcl⟩ := hO6.cell HJ.out
  cases he
  have y0 := hcl 0 _ (by decide) rfl
  have y1 := hcl 1 _ (by decide) rfl
  have y2 := hcl 2 _ (by decide) rfl
  rw [Nat.add_zero] at y0
  have r0 := row_frozen hO6 (j * 3)
  have r1 := row_frozen hO6 (j * 3 + 1)
  have r2 := row_frozen hO6 (j * 3 + 2)
  clear hcl hB6 hO6
  refine RG.lastF (by kernel_rfl) (by kernel_rfl) ?_
  refine RG.wpOp_wanted rfl (by rfl) fun K hK => ?_
  go_simp
  refine hK _ _ ?_
  clear hK K
  try simp only [Act.put, List.setIfInBounds_toArray, List.set_cons_zero, List.set_cons_succ]
  clear q4 p0 p1 p2 y0 y1 y2 r0 r1 r2
  obtain ⟨w7, hw7⟩ : ∃ z, z = ((w6.setCell ⟨g, j * 3, none⟩ (.int .i64 o1)).setCell ⟨g, j * 3 + 1, none⟩ (.int .i64 o2)).setCell ⟨g, j * 3 + 2, none⟩ (.string o3) := ⟨_, rfl⟩
  have HO7 : Hid (OwnV w7 0 (.slice (some ⟨g, 0, none⟩) s.A.length sc) (s.A.set j ⟨o1, o2, o3⟩)) := Lib.hid (by rw [hw7]; exact HO6.out.set (v := ⟨o1, o2, o3⟩) HJ.out)
  have HD7 := Lib.hid ((((HD6.out.setOther (a := ⟨g, j * 3, none⟩) HTG.out (.int .i64 o1)).setOther (a := ⟨g, j * 3 + 1, none⟩) HTG.out (.int .i64 o2)).setOther (a := ⟨g, j * 3 + 2, none⟩) HTG.out (.string o3)))
  rw [← hw7] at HD7 ⊢
  have HC7 : Hid (Chg (fun b => b = g) w w7) := Lib.hid (by rw [hw7]; exact ((((Chg.ofBelow (B := fun b => b = g) HB6.out).setCell (fun _ => rfl) _).setCell (fun _ => rfl) _).setCell (fun _ => rfl) _))
  clear hw7
  rw [← EM.out] at HO7 HD7
  rw [HA1.out] at HO7
  have c0 := HD7.out.cell 0 _ rfl
  have HI0 : Hid (trim (A1.take m) = trim A1 ∧ Blk w7 tb 202 [.slice (some ⟨g, 0, none⟩) m sc, tp, .int .i64 (if s.h then 2 else 1), .int .i64 (if s.h then -1 else (s.i : Int)), sv, rp, mp] ∧ OwnV w7 0 (.slice (some ⟨g, 0, none⟩) m sc) (A1.take m) ∧ Chg (fun b => b = tb ∨ b = g) w w7) := Lib.hid ⟨by rw [← HA1l.out, List.take_length], HD7.out, by rw [← HA1l.out, List.take_length, HA1l.out]; exact HO7.out, HC7.out.mono (fun b _ h => .inr h)⟩
  clear HD7 HO7 HC7 HB6 HO6 HD6 hS0 hB0 HK5 HV5 HB5 HB4 HK4 HV4 HAR HOC HKC
  go_wp2
  clear c0
  go_loopw [10] (fun nv wr => ∃ k : Nat, k ≤ m ∧ nv = .int .i64 k ∧ Hid (trim (A1.take k) = trim A1 ∧ Blk wr tb 202 [.slice (some ⟨g, 0, none⟩) k sc, tp, .int .i64 (if s.h then 2 else 1), .int .i64 (if s.h then -1 else (s.i : Int)), sv, rp, mp] ∧ OwnV wr 0 (.slice (some ⟨g, 0, none⟩) k sc) (A1.take k) ∧ Chg (fun b => b = tb ∨ b = g) w wr)) (fun nv _ => (intOf nv).toNat)
  case atStart => exact ⟨m, Nat.le_refl _, by first | rfl | go_num, HI0⟩
  case round =>
    obtain ⟨k, hk, rfl, HI⟩ := hrel
    have hfin : ∀ k, k ≤ m → trim A1 = A1.take k → Blk wr tb 202 [.slice (some ⟨g, 0, none⟩) k sc, tp, .int .i64 (if s.h then 2 else 1), .int .i64 (if s.h then -1 else (s.i : Int)), sv, rp, mp] → OwnV wr 0 (.slice (some ⟨g, 0, none⟩) k sc) (A1.take k) → Chg (fun b => b = tb ∨ b = g) w wr → TAt wr X tb tp mp T { s with A := trim A1 } N ∧ Chg X w wr := fun k hk h1 h2 h3 h4 => by
      refine ⟨HST.out wr (trim A1) _ h2 (by rw [h1]; exact h3) (fun b hb => hb) h4.size (fun b hb h5 h6 => h4.block b (HT.out.lt b hb) (fun h7 => h7.elim h5 (fun e => h6 (by rw [e]; rfl)))) (by rw [h1, List.length_take, ← EM.out]; omega), h4.mono (fun b _ h => h.elim (fun e => e ▸ HT.out.own) (fun e => e ▸ (HAX.out g rfl).1))⟩
    have HFIN := Lib.hid hfin
    clear hfin
    have c0 := HI.out.2.1.cell 0 _ rfl
    cases k with
    | zero =>
      go_wp2
      go_ret2
      have h1 := HI.out.1
      rw [List.take_zero, trim_nil] at h1
      exact ⟨rfl, HFIN.out 0 (Nat.zero_le _) (by rw [← h1, List.take_zero]) HI.out.2.1 HI.out.2.2.1 HI.out.2.2.2⟩
    | succ q =>
      have hq0 : decide ((0 : Int) < ((q + 1 : Nat) : Int)) = true := decide_eq_true (by omega)
      have hq1 : (((q + 1 : Nat) : Int)) - 1 = (q : Int) := by omega
      obtain ⟨⟨u1, u2, u3⟩, huq⟩ : ∃ u, A1[q]? = some u := ⟨_, List.getElem?_eq_getElem (by rw [HA1l.out]; omega)⟩
      have HUQ := Lib.hid huq
      have hut : (A1.take (q + 1))[q]? = some ⟨u1, u2, u3⟩ := by rw [List.getElem?_take_of_lt (by omega)]; exact huq
      have hlt : (A1.take (q + 1)).length = q + 1 := by rw [List.length_take, HA1l.out]; omega
      have ho := HI.out.2.2.1
      have ho : OwnV wr 0 (.slice (some ⟨g, 0, none⟩) (A1.take (q + 1)).length sc) (A1.take (q + 1)) := by rw [hlt]; exact ho
      obtain ⟨g', cap', he, hcl⟩ := ho.cell hut
      cases he
      have y0 := hcl 0 _ (by decide) rfl
      rw [Nat.add_zero] at y0
      have HQ := Lib.hid (And.intro hk (And.intro hut hlt))
      have hqm : q < m := by omega
      have hqc : q < q + 1 := by omega
      clear hcl hut hlt ho huq
      have htk : A1.take (q + 1) = A1.take q ++ [⟨u1, u2, u3⟩] := by
        rw [List.take_add_one, HUQ.out]; rfl
      have HTK := Lib.hid htk
      clear htk
      by_cases hu0 : u1 = 0
      · subst hu0
        have z0 := HI.out.2.1.frozen 0
        have hqs : q ≤ sc := by have := HSC.out; omega
        go_wp2
        have h1 := HI.out.1
        rw [HTK.out, trim_snoc, if_pos rfl] at h1
        have hcut : OwnV wr 0 (.slice (some ⟨g, 0, none⟩) q sc) (A1.take q) := by
          have h2 : OwnV wr 0 (.slice (some ⟨g, 0, none⟩) (A1.take (q + 1)).length sc) (A1.take (q + 1)) := by rw [HQ.out.2.2]; exact HI.out.2.2.1
          have h3 := h2.cut (n := q) (by rw [HQ.out.2.2]; omega)
          rwa [List.take_take, show min q (q + 1) = q by omega] at h3
        have HREL := Lib.hid (And.intro h1 (And.intro (HI.out.2.1.setSame 0 (.slice (some ⟨g, 0, none⟩) q sc)) (And.intro (hcut.of (w' := wr.setCell ⟨tb, 0, none⟩ (.slice (some ⟨g, 0, none⟩) q sc)) (fun b hb => Below.heap_setCell _ _ _ _ (fun e => by cases hb; exact HTG.out e.symm))) (HI.out.2.2.2.setCell (a := ⟨tb, 0, none⟩) (fun _ => .inl rfl) (.slice (some ⟨g, 0, none⟩) q sc)))))
        go_roundw
        case rel => first | exact ⟨q, by omega, by first | rfl | go_num, HREL⟩ | ((repeat apply Exists.intro); exact ⟨⟨by omega, by first | rfl | go_num, HREL⟩, rfl⟩)
        case measure => (show (q : Int).toNat < (((q + 1 : Nat) : Int)).toNat; omega)
      · have hu1 : (u1 == 0) = false := by simpa using hu0
        have HU0 := Lib.hid hu0
        clear hu0
        go_wp2
        go_ret2
        have h1 := HI.out.1
        rw [HTK.out, trim_snoc, if_neg HU0.out, ← HTK.out] at h1
        exact ⟨rfl, HFIN.out (q + 1) HQ.out.1 h1.symm HI.out.2.1 HI.out.2.2.1 HI.out.2.2.2⟩
set_option maxHeartbeats 8000000 in
set_option maxRecDepth 20000 in
theorem tset_grow (h : TAt w X tb tp mp T s N) (ht : Tr w B tp D F T) (hB : ∀ b, B b → ¬ X b) (x v : Val) (hx : x.s.size ≤ maxLen) (hb : x.bad = false) (hN : N ≤ 100000) (hi : inA s.A (keyV x) = false) (hv : v.own.k ≠ 0) (hk : keyV x = intV (s.A.length + 1)) : Calls Try.prog 63 #[.pointer (some ⟨tb, 0, none⟩), x.v, v.v] w fun e w' => e = .returned (.tuple #[.int .i64 (growM s (intV (s.A.length + 1)) v.own).1, .int .i64 0]) ∧ TRes w w' X B tb tp mp D F T (growM s (intV (s.A.length + 1)) v.own).2 (N + 1) := by
  have hke : keyE x = 0 := by unfold keyE; rw [hb]; rfl
  have HT := Lib.hid h
  obtain ⟨av, sv, rp, hd, har, hax, hst⟩ := h.headX
  obtain ⟨sa, sc, hsv, hsc1, hsc2⟩ := har.form
  subst hsv
  have hAl : s.A.length ≤ 1000000 := by have := h.1; omega
  have HAR0 : ∀ W, Below w.heap.size w W → Calls Try.prog 119 #[.pointer (some ⟨tb, 0, none⟩), (keyV x).v] W fun e w' => e = .returned (.tuple #[.int .i64 (if inA s.A (keyV x) then (keyV x).n - 1 else 0), .bool (inA s.A (keyV x))]) ∧ Below W.heap.size W w' := fun W hW => array1_calls sa s.A.length sc (keyV x) ((hd.of (hW.block tb hd.lt)).cell 0 _ rfl) (by omega) s.A rfl
  rw [hi] at HAR0
  have HAR := Lib.hid HAR0
  obtain ⟨x1, x2, x3⟩ := x
  obtain ⟨v1, v2, v3⟩ := v
  obtain ⟨⟨k1, k2, k3⟩, hkv⟩ : ∃ k, keyV ⟨x1, x2, x3⟩ = k := ⟨_, rfl⟩
  obtain ⟨⟨o1, o2, o3⟩, hov⟩ : ∃ o, Val.own ⟨v1, v2, v3⟩ = o := ⟨_, rfl⟩
  have HB0 : Hid (Below w.heap.size w ((w.alloc (.cells #[.int .i64 x1, .int .i64 x2, .string x3] 57)).alloc (.cells #[.int .i64 v1, .int .i64 v2, .string v3] 57))) := Lib.hid (by (repeat (first | exact Below.refl _ _ | (refine Below.alloc ?_ (by simp <;> omega) _))))
  have HK0 : Hid (Blk ((w.alloc (.cells #[.int .i64 x1, .int .i64 x2, .string x3] 57)).alloc (.cells #[.int .i64 v1, .int .i64 v2, .string v3] 57)) w.heap.size 57 [.int .i64 x1, .int .i64 x2, .string x3]) := Lib.hid ((Blk.new w [.int .i64 x1, .int .i64 x2, .string x3] 57).alloc _)
  have HV0 : Hid (Blk ((w.alloc (.cells #[.int .i64 x1, .int .i64 x2, .string x3] 57)).alloc (.cells #[.int .i64 v1, .int .i64 v2, .string v3] 57)) (w.heap.size + 1) 57 [.int .i64 v1, .int .i64 v2, .string v3]) := Lib.hid (by simpa using Blk.new (w.alloc (.cells #[.int .i64 x1, .int .i64 x2, .string x3] 57)) [.int .i64 v1, .int .i64 v2, .string v3] 57)
  have HKC := Lib.hid (fun (W : World) => key_calls ⟨x1, x2, x3⟩ W)
  have HOC := Lib.hid (fun (W : World) => own_calls ⟨v1, v2, v3⟩ W)
  rw [hkv, hke] at HKC
  rw [hov] at HOC
  rw [hk] at hkv
  obtain ⟨rfl, rfl, rfl⟩ : 2 = k1 ∧ ((s.A.length : Int) + 1) = k2 ∧ Val.e = k3 := by cases hkv; exact ⟨rfl, rfl, rfl⟩
  rw [hov] at hv ⊢
  have ho : (o1 != 0) = true := by simpa using hv
  have HG0 : ∀ W, Below w.heap.size w W → Calls Try.prog 120 #[.pointer (some ⟨tb, 0, none⟩), Val.v (intV (s.A.length + 1)), Val.v ⟨o1, o2, o3⟩] W fun e w' => e = .returned (.int .i64 (growM s (intV (s.A.length + 1)) ⟨o1, o2, o3⟩).1) ∧ TRes w w' X B tb tp mp D F T (growM s (intV (s.A.length + 1)) ⟨o1, o2, o3⟩).2 (N + 1) := fun W hW =>
    (tgrow_calls (h.below hW) (ht.below hW) hB hN ⟨o1, o2, o3⟩).mono (fun e w' h => ⟨h.1, h.2.from hW⟩)
  have HG := Lib.hid HG0
  obtain ⟨gf, hgf⟩ : ∃ g, growM s (intV (s.A.length + 1)) ⟨o1, o2, o3⟩ = g := ⟨_, rfl⟩
  rw [hgf] at HG ⊢
  rw [show keyV ⟨x1, x2, x3⟩ = ⟨2, (s.A.length : Int) + 1, Val.e⟩ from hk] at HAR
  clear hgf HG0 hk hv hov
  rw [if_neg (by decide)] at HAR
  have HD := Lib.hid hd
  have HTR := Lib.hid ht
  have HBX := Lib.hid hB
  obtain ⟨m, hm⟩ : ∃ m, m = s.A.length := ⟨_, rfl⟩
  have EM := Lib.hid hm
  have hm0 : (m : Int) ≤ 1000000 := by omega
  have hm1 : (0 : Int) ≤ (m : Int) := by omega
  have HLN : Hid (∀ W, Below w.heap.size w W → Calls Try.prog 72 #[.pointer (some ⟨tb, 0, none⟩)] W fun e w' => e = .returned (.int .i64 (m : Nat)) ∧ Below W.heap.size W w') := Lib.hid (fun W hW => by rw [EM.out]; exact tlen_at ((HD.out.of (hW.block tb HD.out.lt)).cell 0 _ rfl))
  rw [← hm] at HAR HKC HG
  clear h ht hB hd har hax hst HAR0 hsc1 hsc2 hi hb hAl hm hke HD hkv
  go_enter Try.func63, Try.ntmps63
  go_upto_region 4 with (go_at_call 43; go_loud ((with_reducible refine (HKC.out _).mono ?_); rintro e w1 ⟨rfl, hb1⟩; have HB1 := Lib.hid (HB0.out.trans (hb1.mono HB0.out.size)); have HK1 := Lib.hid (HK0.out.of (hb1.block _ HK0.out.lt)); have HV1 := Lib.hid (HV0.out.of (hb1.block _ HV0.out.lt)); clear hb1; have k0 := HK1.out.cell 0 _ rfl; have k1' := HK1.out.cell 1 _ rfl; have k2' := HK1.out.cell 2 _ rfl; have z0 := HK1.out.frozen 0; have z1 := HK1.out.frozen 1; have z2 := HK1.out.frozen 2))
  obtain ⟨w2, hw2⟩ : ∃ z, z = (((w1.setCell ⟨w.heap.size, 0, none⟩ (.int .i64 2)).setCell ⟨w.heap.size, 1, none⟩ (.int .i64 ((m : Int) + 1))).setCell ⟨w.heap.size, 2, none⟩ (.string Val.e)) := ⟨_, rfl⟩
  have HB2 : Hid (Below w.heap.size w w2) := Lib.hid (by rw [hw2]; exact ((HB1.out.setCell (Nat.le_refl _) _).setCell (Nat.le_refl _) _).setCell (Nat.le_refl _) _)
  have HK2 : Hid (Blk w2 w.heap.size 57 [.int .i64 2, .int .i64 ((m : Int) + 1), .string Val.e]) := Lib.hid (by rw [hw2]; exact ((HK1.out.setSame 0 (.int .i64 2)).setSame 1 (.int .i64 ((m : Int) + 1))).setSame 2 (.string Val.e))
  have hne1 : w.heap.size + 1 ≠ w.heap.size := by omega
  have HV2 : Hid (Blk w2 (w.heap.size + 1) 57 [.int .i64 v1, .int .i64 v2, .string v3]) := Lib.hid (by rw [hw2]; exact (((HV1.out.setOther (a := ⟨w.heap.size, 0, none⟩) hne1 _).setOther (a := ⟨w.heap.size, 1, none⟩) hne1 _).setOther (a := ⟨w.heap.size, 2, none⟩) hne1 _))
  rw [← hw2]
  clear hw2 k0 k1' k2' z0 z1 z2 HB1 HK1 HV1 HB0 HK0 HV0
  have v0 := HV2.out.cell 0 _ rfl
  have v1' := HV2.out.cell 1 _ rfl
  have v2' := HV2.out.cell 2 _ rfl
  have hu := Try.underlying57
  go_upto_region 7 with (go_at_call 59; go_loud ((with_reducible refine (HOC.out _).mono ?_); rintro e w3 ⟨rfl, hb1⟩; have HB3 := Lib.hid (HB2.out.trans (hb1.mono HB2.out.size)); have HK3 := Lib.hid (HK2.out.of (hb1.block _ HK2.out.lt)); have HV3 := Lib.hid (HV2.out.of (hb1.block _ HV2.out.lt)); clear hb1; have k0 := HV3.out.cell 0 _ rfl; have k1' := HV3.out.cell 1 _ rfl; have k2' := HV3.out.cell 2 _ rfl; have z0 := HV3.out.frozen 0; have z1 := HV3.out.frozen 1; have z2 := HV3.out.frozen 2))
  clear v0 v1' v2'
  obtain ⟨w4, hw4⟩ : ∃ z, z = (((w3.setCell ⟨w.heap.size + 1, 0, none⟩ (.int .i64 o1)).setCell ⟨w.heap.size + 1, 1, none⟩ (.int .i64 o2)).setCell ⟨w.heap.size + 1, 2, none⟩ (.string o3)) := ⟨_, rfl⟩
  have HB4 : Hid (Below w.heap.size w w4) := Lib.hid (by rw [hw4]; exact ((HB3.out.setCell (Nat.le_succ _) _).setCell (Nat.le_succ _) _).setCell (Nat.le_succ _) _)
  have HV4 : Hid (Blk w4 (w.heap.size + 1) 57 [.int .i64 o1, .int .i64 o2, .string o3]) := Lib.hid (by rw [hw4]; exact ((HV3.out.setSame 0 (.int .i64 o1)).setSame 1 (.int .i64 o2)).setSame 2 (.string o3))
  have hne2 : w.heap.size ≠ w.heap.size + 1 := by omega
  have HK4 : Hid (Blk w4 w.heap.size 57 [.int .i64 2, .int .i64 ((m : Int) + 1), .string Val.e]) := Lib.hid (by rw [hw4]; exact (((HK3.out.setOther (a := ⟨w.heap.size + 1, 0, none⟩) hne2 _).setOther (a := ⟨w.heap.size + 1, 1, none⟩) hne2 _).setOther (a := ⟨w.heap.size + 1, 2, none⟩) hne2 _))
  rw [← hw4]
  clear hw4 k0 k1' k2' z0 z1 z2 HB3 HK3 HV3 HB2 HK2 HV2 hne1 hne2
  have v0 := HK4.out.cell 0 _ rfl
  have v1' := HK4.out.cell 1 _ rfl
  have v2' := HK4.out.cell 2 _ rfl
  go_upto_region 15 with (go_at_call 119; go_loud ((with_reducible refine (HAR.out _ HB4.out).mono ?_); rintro e w5 ⟨rfl, hb1⟩; have HB5 := Lib.hid (HB4.out.trans (hb1.mono HB4.out.size)); have HK5 := Lib.hid (HK4.out.of (hb1.block _ HK4.out.lt)); have HV5 := Lib.hid (HV4.out.of (hb1.block _ HV4.out.lt)); clear hb1))
  clear v0 v1' v2'
  have hwr : IntKind.i64.wrap ((m : Int) + 1) = (m : Int) + 1 := by rw [← wrap64_eq]; unfold RowKit.wrap64; omega
  clear hm0 hm1
  have hBF : Below w5.heap.size w5 ({ w5 with drawn := w5.drawn + 1 } : World) := ⟨rfl, rfl, rfl, Nat.le_refl _, fun _ _ => rfl⟩
  refine wp_region_held (S := Below w5.heap.size w5) (by kernel_rfl) ?_
  have hSF := hBF
  generalize ({ w5 with drawn := w5.drawn + 1 } : World) = wF at hSF hBF ⊢
  have hslF := hSF.size
  have k0F : ∀ W, Below w5.heap.size w5 W → W.cell? ⟨w.heap.size, 0, none⟩ = some (.int .i64 2) := fun W hW => (HK5.out.of (hW.block _ HK5.out.lt)).cell 0 _ rfl
  have k1F : ∀ W, Below w5.heap.size w5 W → W.cell? ⟨w.heap.size, 1, none⟩ = some (.int .i64 ((m : Int) + 1)) := fun W hW => (HK5.out.of (hW.block _ HK5.out.lt)).cell 1 _ rfl
  have k2F : ∀ W, Below w5.heap.size w5 W → W.cell? ⟨w.heap.size, 2, none⟩ = some (.string Val.e) := fun W hW => (HK5.out.of (hW.block _ HK5.out.lt)).cell 2 _ rfl
  have v0F : ∀ W, Below w5.heap.size w5 W → W.cell? ⟨w.heap.size + 1, 0, none⟩ = some (.int .i64 o1) := fun W hW => (HV5.out.of (hW.block _ HV5.out.lt)).cell 0 _ rfl
  have v1F : ∀ W, Below w5.heap.size w5 W → W.cell? ⟨w.heap.size + 1, 1, none⟩ = some (.int .i64 o2) := fun W hW => (HV5.out.of (hW.block _ HV5.out.lt)).cell 1 _ rfl
  have v2F : ∀ W, Below w5.heap.size w5 W → W.cell? ⟨w.heap.size + 1, 2, none⟩ = some (.string o3) := fun W hW => (HV5.out.of (hW.block _ HV5.out.lt)).cell 2 _ rfl
  refine takeH 0 (oi := ⟨some 68, _, _, _, _, _⟩) (v := ?_) rfl (by kernel_rfl) (by kernel_rfl) (by kernel_rfl) (fun _ _ _ h => h) (Or.inl ⟨by rfl, ?hyF8⟩) hSF ?restF8
  case hyF8 => (intro W hW; (try dsimp only at hW); go_simp; try with_reducible rfl)
  try simp only [Act.put, List.setIfInBounds_toArray, List.set_cons_zero, List.set_cons_succ]
  refine takeH 1 (oi := ⟨some 69, _, _, _, _, _⟩) (v := ?_) rfl (by kernel_rfl) (by kernel_rfl) (by kernel_rfl) (fun _ _ _ h => h) (Or.inl ⟨by rfl, ?hyF9⟩) hSF ?restF9
  case hyF9 => (intro W hW; (try dsimp only at hW); go_simp; try with_reducible rfl)
  try simp only [Act.put, List.setIfInBounds_toArray, List.set_cons_zero, List.set_cons_succ]
  refine takeH 2 (oi := ⟨some 70, _, _, _, _, _⟩) (v := ?_) rfl (by kernel_rfl) (by kernel_rfl) (by kernel_rfl) (fun _ _ _ h => h) (Or.inl ⟨by rfl, ?hyF10⟩) hSF ?restF10
  case hyF10 => (intro W hW; (try dsimp only at hW); go_simp; try with_reducible rfl)
  try simp only [Act.put, List.setIfInBounds_toArray, List.set_cons_zero, List.set_cons_succ]
  refine takeH 3 (oi := ⟨some 71, _, _, _, _, _⟩) (v := ?_) rfl (by kernel_rfl) (by kernel_rfl) (by kernel_rfl) (fun _ _ _ h => h) (Or.inl ⟨by rfl, ?hyF11⟩) hSF ?restF11
  case hyF11 => (intro W hW; (try dsimp only at hW); go_simp; try with_reducible rfl)
  try simp only [Act.put, List.setIfInBounds_toArray, List.set_cons_zero, List.set_cons_succ]
  refine takeH 4 (oi := ⟨some 72, _, _, _, _, _⟩) (v := ?_) rfl (by kernel_rfl) (by kernel_rfl) (by kernel_rfl) (fun _ _ _ h => h) (Or.inl ⟨by rfl, ?hyF12⟩) hSF ?restF12
  case hyF12 => (intro W hW; (try dsimp only at hW); go_simp; try with_reducible rfl)
  try simp only [Act.put, List.setIfInBounds_toArray, List.set_cons_zero, List.set_cons_succ]
  refine takeH 5 (oi := ⟨some 73, _, _, _, _, _⟩) (v := ?_) rfl (by kernel_rfl) (by kernel_rfl) (by kernel_rfl) (fun _ _ _ h => h) (Or.inl ⟨by rfl, ?hyF13⟩) hSF ?restF13
  case hyF13 => (intro W hW; (try dsimp only at hW); go_simp; try with_reducible rfl)
  try simp only [Act.put, List.setIfInBounds_toArray, List.set_cons_zero, List.set_cons_succ]
  refine one (i := 6) (by kernel_rfl) ?_
  refine wpOp_wanted rfl (by rfl) fun K hK => ?_
  go_simp
  with_reducible refine (HLN.out _ (HB5.out.trans ((hSF).mono HB5.out.size))).mono ?_
  rintro e wF14 ⟨rfl, hb⟩
  have SF14 : Below w5.heap.size w5 wF14 := hSF.trans (hb.mono hSF.size)
  clear hb
  refine hK _ _ ⟨SF14, ?_⟩
  clear hK K
  try simp only [Act.put, List.setIfInBounds_toArray, List.set_cons_zero, List.set_cons_succ]
  refine takeH 7 (oi := ⟨some 75, _, _, _, _, _⟩) (v := ?_) rfl (by kernel_rfl) (by kernel_rfl) (by kernel_rfl) (fun _ _ _ h => h) (Or.inl ⟨by rfl, ?hyF15⟩) SF14 ?restF15
  case hyF15 => (intro W hW; (try dsimp only at hW); go_simp; try with_reducible rfl)
  try simp only [Act.put, List.setIfInBounds_toArray, List.set_cons_zero, List.set_cons_succ]
  refine one (i := 8) (by kernel_rfl) ?_
  refine wpOp_wanted rfl (by rfl) fun K hK => ?_
  go_simp
  with_reducible refine (ofInt_calls _ _).mono ?_
  rintro e wF16 ⟨rfl, hb⟩
  have SF16 : Below w5.heap.size w5 wF16 := SF14.trans (hb.mono SF14.size)
  clear hb
  refine hK _ _ ⟨SF16, ?_⟩
  clear hK K
  try simp only [Act.put, List.setIfInBounds_toArray, List.set_cons_zero, List.set_cons_succ]
  refine takeH 9 (oi := ⟨some 77, _, _, _, _, _⟩) (v := ?_) rfl (by kernel_rfl) (by kernel_rfl) (by kernel_rfl) (fun _ _ _ h => h) (Or.inl ⟨by rfl, ?hyF17⟩) SF16 ?restF17
  case hyF17 => (intro W hW; (try dsimp only at hW); go_simp; try with_reducible rfl)
  try simp only [Act.put, List.setIfInBounds_toArray, List.set_cons_zero, List.set_cons_succ]
  refine takeH 10 (oi := ⟨some 78, _, _, _, _, _⟩) (v := ?_) rfl (by kernel_rfl) (by kernel_rfl) (by kernel_rfl) (fun _ _ _ h => h) (Or.inl ⟨by rfl, ?hyF18⟩) SF16 ?restF18
  case hyF18 => (intro W hW; (try dsimp only at hW); go_simp; try with_reducible rfl)
  try simp only [Act.put, List.setIfInBounds_toArray, List.set_cons_zero, List.set_cons_succ]
  refine wpAnyH_done (by kernel_rfl) ?_ _
  clear k0F k1F k2F v0F v1F v2F
  have HB6 : Hid (Below w.heap.size w wF16) := Lib.hid (HB5.out.trans ((SF16).mono HB5.out.size))
  have HK6 := Lib.hid (HK5.out.of ((SF16).block _ HK5.out.lt))
  have HV6 := Lib.hid (HV5.out.of ((SF16).block _ HV5.out.lt))
  generalize wF16 = w6 at HB6 HK6 HV6 ⊢
  have k0 := HK6.out.cell 0 _ rfl
  have k1' := HK6.out.cell 1 _ rfl
  have k2' := HK6.out.cell 2 _ rfl
  have v0 := HV6.out.cell 0 _ rfl
  have v1' := HV6.out.cell 1 _ rfl
  have v2' := HV6.out.cell 2 _ rfl
  have HWR := Lib.hid hwr
  clear hwr
  go_wp2_with (go_at_call 120; go_loud ((with_reducible refine (HG.out _ HB6.out).mono ?_); rintro e w7 ⟨rfl, hres⟩; have HRES := Lib.hid hres; clear hres))
  go_ret2
  exact ⟨rfl, HRES.out⟩
set_option maxHeartbeats 8000000 in
set_option maxRecDepth 20000 in
theorem tset_other_nil (h : TAt w X tb tp mp T s N) (ht : Tr w B tp D F T) (hB : ∀ b, B b → ¬ X b) (x v : Val) (hx : x.s.size ≤ maxLen) (hb : x.bad = false) (hN : N ≤ 100000) (hi : inA s.A (keyV x) = false) (hO : ownR s.R) (hv : v.own.k = 0) : Calls Try.prog 63 #[.pointer (some ⟨tb, 0, none⟩), x.v, v.v] w fun e w' => e = .returned (.tuple #[.int .i64 (otherM D F T s (keyV x) v.own).fresh, .int .i64 0]) ∧ TRes w w' X B tb tp mp D F (otherM D F T s (keyV x) v.own).T (otherM D F T s (keyV x) v.own).s (N + 1) := by
  have hke : keyE x = 0 := by unfold keyE; rw [hb]; rfl
  have HT := Lib.hid h
  obtain ⟨av, sv, rp, hd, har, hax, hst⟩ := h.headX
  obtain ⟨sa, sc, hsv, hsc1, hsc2⟩ := har.form
  subst hsv
  have hAl : s.A.length ≤ 1000000 := by have := h.1; omega
  have HAR0 : ∀ W, Below w.heap.size w W → Calls Try.prog 119 #[.pointer (some ⟨tb, 0, none⟩), (keyV x).v] W fun e w' => e = .returned (.tuple #[.int .i64 (if inA s.A (keyV x) then (keyV x).n - 1 else 0), .bool (inA s.A (keyV x))]) ∧ Below W.heap.size W w' := fun W hW => array1_calls sa s.A.length sc (keyV x) ((hd.of (hW.block tb hd.lt)).cell 0 _ rfl) (by omega) s.A rfl
  rw [hi] at HAR0
  have HAR := Lib.hid HAR0
  obtain ⟨x1, x2, x3⟩ := x
  obtain ⟨v1, v2, v3⟩ := v
  obtain ⟨⟨k1, k2, k3⟩, hkv⟩ : ∃ k, keyV ⟨x1, x2, x3⟩ = k := ⟨_, rfl⟩
  obtain ⟨⟨o1, o2, o3⟩, hov⟩ : ∃ o, Val.own ⟨v1, v2, v3⟩ = o := ⟨_, rfl⟩
  have HB0 : Hid (Below w.heap.size w ((w.alloc (.cells #[.int .i64 x1, .int .i64 x2, .string x3] 57)).alloc (.cells #[.int .i64 v1, .int .i64 v2, .string v3] 57))) := Lib.hid (by (repeat (first | exact Below.refl _ _ | (refine Below.alloc ?_ (by simp <;> omega) _))))
  have HK0 : Hid (Blk ((w.alloc (.cells #[.int .i64 x1, .int .i64 x2, .string x3] 57)).alloc (.cells #[.int .i64 v1, .int .i64 v2, .string v3] 57)) w.heap.size 57 [.int .i64 x1, .int .i64 x2, .string x3]) := Lib.hid ((Blk.new w [.int .i64 x1, .int .i64 x2, .string x3] 57).alloc _)
  have HV0 : Hid (Blk ((w.alloc (.cells #[.int .i64 x1, .int .i64 x2, .string x3] 57)).alloc (.cells #[.int .i64 v1, .int .i64 v2, .string v3] 57)) (w.heap.size + 1) 57 [.int .i64 v1, .int .i64 v2, .string v3]) := Lib.hid (by simpa using Blk.new (w.alloc (.cells #[.int .i64 x1, .int .i64 x2, .string x3] 57)) [.int .i64 v1, .int .i64 v2, .string v3] 57)
  have HKC := Lib.hid (fun (W : World) => key_calls ⟨x1, x2, x3⟩ W)
  have HOC := Lib.hid (fun (W : World) => own_calls ⟨v1, v2, v3⟩ W)
  rw [hkv, hke] at HKC
  rw [hov] at HOC
  have HQ1 := Lib.hid (keyV_key ⟨x1, x2, x3⟩ hb)
  have HQ2 := Lib.hid (own_own ⟨v1, v2, v3⟩)
  have hks : (keyV ⟨x1, x2, x3⟩).s.size ≤ maxLen := keyV_size hx
  rw [hkv] at HQ1 hks ⊢
  rw [hov] at HQ2 ⊢
  rw [hov] at hv
  have ho : o1 = 0 := hv
  subst ho
  have HG0 : ∀ W, Below w.heap.size w W → Calls Try.prog 121 #[.pointer (some ⟨tb, 0, none⟩), Val.v ⟨k1, k2, k3⟩, Val.v ⟨0, o2, o3⟩] W fun e w' => e = .returned (.int .i64 (otherM D F T s ⟨k1, k2, k3⟩ ⟨0, o2, o3⟩).fresh) ∧ TRes w w' X B tb tp mp D F (otherM D F T s ⟨k1, k2, k3⟩ ⟨0, o2, o3⟩).T (otherM D F T s ⟨k1, k2, k3⟩ ⟨0, o2, o3⟩).s (N + 1) := fun W hW =>
    (tother_calls (h.below hW) (ht.below hW) hB hO ⟨k1, k2, k3⟩ ⟨0, o2, o3⟩ hks HQ1.out.2 HQ1.out.1 HQ2.out hN).mono (fun e w' h => ⟨h.1, h.2.from hW⟩)
  have HG := Lib.hid HG0
  obtain ⟨gf, hgf⟩ : ∃ g, otherM D F T s ⟨k1, k2, k3⟩ ⟨0, o2, o3⟩ = g := ⟨_, rfl⟩
  rw [hgf] at HG ⊢
  clear hgf HG0 hov hks hO HQ1 HQ2
  rw [hkv] at HAR
  rw [if_neg (by decide)] at HAR
  have HD := Lib.hid hd
  have HTR := Lib.hid ht
  have HBX := Lib.hid hB
  obtain ⟨m, hm⟩ : ∃ m, m = s.A.length := ⟨_, rfl⟩
  have EM := Lib.hid hm
  have hm0 : (m : Int) ≤ 1000000 := by omega
  have hm1 : (0 : Int) ≤ (m : Int) := by omega
  have HLN : Hid (∀ W, Below w.heap.size w W → Calls Try.prog 72 #[.pointer (some ⟨tb, 0, none⟩)] W fun e w' => e = .returned (.int .i64 (m : Nat)) ∧ Below W.heap.size W w') := Lib.hid (fun W hW => by rw [EM.out]; exact tlen_at ((HD.out.of (hW.block tb HD.out.lt)).cell 0 _ rfl))
  clear h ht hB hd har hax hst HAR0 hsc1 hsc2 hi hb hAl hm hke HD hkv
  go_enter Try.func63, Try.ntmps63
  go_upto_region 4 with (go_at_call 43; go_loud ((with_reducible refine (HKC.out _).mono ?_); rintro e w1 ⟨rfl, hb1⟩; have HB1 := Lib.hid (HB0.out.trans (hb1.mono HB0.out.size)); have HK1 := Lib.hid (HK0.out.of (hb1.block _ HK0.out.lt)); have HV1 := Lib.hid (HV0.out.of (hb1.block _ HV0.out.lt)); clear hb1; have k0 := HK1.out.cell 0 _ rfl; have k1' := HK1.out.cell 1 _ rfl; have k2' := HK1.out.cell 2 _ rfl; have z0 := HK1.out.frozen 0; have z1 := HK1.out.frozen 1; have z2 := HK1.out.frozen 2))
  obtain ⟨w2, hw2⟩ : ∃ z, z = (((w1.setCell ⟨w.heap.size, 0, none⟩ (.int .i64 k1)).setCell ⟨w.heap.size, 1, none⟩ (.int .i64 k2)).setCell ⟨w.heap.size, 2, none⟩ (.string k3)) := ⟨_, rfl⟩
  have HB2 : Hid (Below w.heap.size w w2) := Lib.hid (by rw [hw2]; exact ((HB1.out.setCell (Nat.le_refl _) _).setCell (Nat.le_refl _) _).setCell (Nat.le_refl _) _)
  have HK2 : Hid (Blk w2 w.heap.size 57 [.int .i64 k1, .int .i64 k2, .string k3]) := Lib.hid (by rw [hw2]; exact ((HK1.out.setSame 0 (.int .i64 k1)).setSame 1 (.int .i64 k2)).setSame 2 (.string k3))
  have hne1 : w.heap.size + 1 ≠ w.heap.size := by omega
  have HV2 : Hid (Blk w2 (w.heap.size + 1) 57 [.int .i64 v1, .int .i64 v2, .string v3]) := Lib.hid (by rw [hw2]; exact (((HV1.out.setOther (a := ⟨w.heap.size, 0, none⟩) hne1 _).setOther (a := ⟨w.heap.size, 1, none⟩) hne1 _).setOther (a := ⟨w.heap.size, 2, none⟩) hne1 _))
  rw [← hw2]
  clear hw2 k0 k1' k2' z0 z1 z2 HB1 HK1 HV1 HB0 HK0 HV0
  have v0 := HV2.out.cell 0 _ rfl
  have v1' := HV2.out.cell 1 _ rfl
  have v2' := HV2.out.cell 2 _ rfl
  have hu := Try.underlying57
  go_upto_region 7 with (go_at_call 59; go_loud ((with_reducible refine (HOC.out _).mono ?_); rintro e w3 ⟨rfl, hb1⟩; have HB3 := Lib.hid (HB2.out.trans (hb1.mono HB2.out.size)); have HK3 := Lib.hid (HK2.out.of (hb1.block _ HK2.out.lt)); have HV3 := Lib.hid (HV2.out.of (hb1.block _ HV2.out.lt)); clear hb1; have k0 := HV3.out.cell 0 _ rfl; have k1' := HV3.out.cell 1 _ rfl; have k2' := HV3.out.cell 2 _ rfl; have z0 := HV3.out.frozen 0; have z1 := HV3.out.frozen 1; have z2 := HV3.out.frozen 2))
  clear v0 v1' v2'
  obtain ⟨w4, hw4⟩ : ∃ z, z = (((w3.setCell ⟨w.heap.size + 1, 0, none⟩ (.int .i64 0)).setCell ⟨w.heap.size + 1, 1, none⟩ (.int .i64 o2)).setCell ⟨w.heap.size + 1, 2, none⟩ (.string o3)) := ⟨_, rfl⟩
  have HB4 : Hid (Below w.heap.size w w4) := Lib.hid (by rw [hw4]; exact ((HB3.out.setCell (Nat.le_succ _) _).setCell (Nat.le_succ _) _).setCell (Nat.le_succ _) _)
  have HV4 : Hid (Blk w4 (w.heap.size + 1) 57 [.int .i64 0, .int .i64 o2, .string o3]) := Lib.hid (by rw [hw4]; exact ((HV3.out.setSame 0 (.int .i64 0)).setSame 1 (.int .i64 o2)).setSame 2 (.string o3))
  have hne2 : w.heap.size ≠ w.heap.size + 1 := by omega
  have HK4 : Hid (Blk w4 w.heap.size 57 [.int .i64 k1, .int .i64 k2, .string k3]) := Lib.hid (by rw [hw4]; exact (((HK3.out.setOther (a := ⟨w.heap.size + 1, 0, none⟩) hne2 _).setOther (a := ⟨w.heap.size + 1, 1, none⟩) hne2 _).setOther (a := ⟨w.heap.size + 1, 2, none⟩) hne2 _))
  rw [← hw4]
  clear hw4 k0 k1' k2' z0 z1 z2 HB3 HK3 HV3 HB2 HK2 HV2 hne1 hne2
  have v0 := HK4.out.cell 0 _ rfl
  have v1' := HK4.out.cell 1 _ rfl
  have v2' := HK4.out.cell 2 _ rfl
  go_upto_region 15 with (go_at_call 119; go_loud ((with_reducible refine (HAR.out _ HB4.out).mono ?_); rintro e w5 ⟨rfl, hb1⟩; have HB5 := Lib.hid (HB4.out.trans (hb1.mono HB4.out.size)); have HK5 := Lib.hid (HK4.out.of (hb1.block _ HK4.out.lt)); have HV5 := Lib.hid (HV4.out.of (hb1.block _ HV4.out.lt)); clear hb1))
  clear v0 v1' v2'
  have hwr : IntKind.i64.wrap ((m : Int) + 1) = (m : Int) + 1 := by rw [← wrap64_eq]; unfold RowKit.wrap64; omega
  clear hm0 hm1
  have hBF : Below w5.heap.size w5 ({ w5 with drawn := w5.drawn + 1 } : World) := ⟨rfl, rfl, rfl, Nat.le_refl _, fun _ _ => rfl⟩
  refine wp_region_held (S := Below w5.heap.size w5) (by kernel_rfl) ?_
  have hSF := hBF
  generalize ({ w5 with drawn := w5.drawn + 1 } : World) = wF at hSF hBF ⊢
  have hslF := hSF.size
  have k0F : ∀ W, Below w5.heap.size w5 W → W.cell? ⟨w.heap.size, 0, none⟩ = some (.int .i64 k1) := fun W hW => (HK5.out.of (hW.block _ HK5.out.lt)).cell 0 _ rfl
  have k1F : ∀ W, Below w5.heap.size w5 W → W.cell? ⟨w.heap.size, 1, none⟩ = some (.int .i64 k2) := fun W hW => (HK5.out.of (hW.block _ HK5.out.lt)).cell 1 _ rfl
  have k2F : ∀ W, Below w5.heap.size w5 W → W.cell? ⟨w.heap.size, 2, none⟩ = some (.string k3) := fun W hW => (HK5.out.of (hW.block _ HK5.out.lt)).cell 2 _ rfl
  have v0F : ∀ W, Below w5.heap.size w5 W → W.cell? ⟨w.heap.size + 1, 0, none⟩ = some (.int .i64 0) := fun W hW => (HV5.out.of (hW.block _ HV5.out.lt)).cell 0 _ rfl
  have v1F : ∀ W, Below w5.heap.size w5 W → W.cell? ⟨w.heap.size + 1, 1, none⟩ = some (.int .i64 o2) := fun W hW => (HV5.out.of (hW.block _ HV5.out.lt)).cell 1 _ rfl
  have v2F : ∀ W, Below w5.heap.size w5 W → W.cell? ⟨w.heap.size + 1, 2, none⟩ = some (.string o3) := fun W hW => (HV5.out.of (hW.block _ HV5.out.lt)).cell 2 _ rfl
  refine takeH 0 (oi := ⟨some 68, _, _, _, _, _⟩) (v := ?_) rfl (by kernel_rfl) (by kernel_rfl) (by kernel_rfl) (fun _ _ _ h => h) (Or.inl ⟨by rfl, ?hyF19⟩) hSF ?restF19
  case hyF19 => (intro W hW; (try dsimp only at hW); go_simp; try with_reducible rfl)
  try simp only [Act.put, List.setIfInBounds_toArray, List.set_cons_zero, List.set_cons_succ]
  refine takeH 1 (oi := ⟨some 69, _, _, _, _, _⟩) (v := ?_) rfl (by kernel_rfl) (by kernel_rfl) (by kernel_rfl) (fun _ _ _ h => h) (Or.inl ⟨by rfl, ?hyF20⟩) hSF ?restF20
  case hyF20 => (intro W hW; (try dsimp only at hW); go_simp; try with_reducible rfl)
  try simp only [Act.put, List.setIfInBounds_toArray, List.set_cons_zero, List.set_cons_succ]
  refine takeH 2 (oi := ⟨some 70, _, _, _, _, _⟩) (v := ?_) rfl (by kernel_rfl) (by kernel_rfl) (by kernel_rfl) (fun _ _ _ h => h) (Or.inl ⟨by rfl, ?hyF21⟩) hSF ?restF21
  case hyF21 => (intro W hW; (try dsimp only at hW); go_simp; try with_reducible rfl)
  try simp only [Act.put, List.setIfInBounds_toArray, List.set_cons_zero, List.set_cons_succ]
  refine takeH 3 (oi := ⟨some 71, _, _, _, _, _⟩) (v := ?_) rfl (by kernel_rfl) (by kernel_rfl) (by kernel_rfl) (fun _ _ _ h => h) (Or.inl ⟨by rfl, ?hyF22⟩) hSF ?restF22
  case hyF22 => (intro W hW; (try dsimp only at hW); go_simp; try with_reducible rfl)
  try simp only [Act.put, List.setIfInBounds_toArray, List.set_cons_zero, List.set_cons_succ]
  refine takeH 4 (oi := ⟨some 72, _, _, _, _, _⟩) (v := undef) rfl (by kernel_rfl) (by kernel_rfl) (by kernel_rfl) (fun _ _ _ h => h) (Or.inr ⟨by rfl, rfl⟩) hSF ?restF23
  try simp only [Act.put, List.setIfInBounds_toArray, List.set_cons_zero, List.set_cons_succ]
  refine takeH 5 (oi := ⟨some 73, _, _, _, _, _⟩) (v := undef) rfl (by kernel_rfl) (by kernel_rfl) (by kernel_rfl) (fun _ _ _ h => h) (Or.inr ⟨by rfl, rfl⟩) hSF ?restF24
  try simp only [Act.put, List.setIfInBounds_toArray, List.set_cons_zero, List.set_cons_succ]
  refine takeH 6 (oi := ⟨some 74, _, _, _, _, _⟩) (v := undef) rfl (by kernel_rfl) (by kernel_rfl) (by kernel_rfl) (fun _ _ _ h => h) (Or.inr ⟨by rfl, rfl⟩) hSF ?restF25
  try simp only [Act.put, List.setIfInBounds_toArray, List.set_cons_zero, List.set_cons_succ]
  refine takeH 7 (oi := ⟨some 75, _, _, _, _, _⟩) (v := undef) rfl (by kernel_rfl) (by kernel_rfl) (by kernel_rfl) (fun _ _ _ h => h) (Or.inr ⟨by rfl, rfl⟩) hSF ?restF26
  try simp only [Act.put, List.setIfInBounds_toArray, List.set_cons_zero, List.set_cons_succ]
  refine takeH 8 (oi := ⟨some 76, _, _, _, _, _⟩) (v := undef) rfl (by kernel_rfl) (by kernel_rfl) (by kernel_rfl) (fun _ _ _ h => h) (Or.inr ⟨by rfl, rfl⟩) hSF ?restF27
  try simp only [Act.put, List.setIfInBounds_toArray, List.set_cons_zero, List.set_cons_succ]
  refine takeH 9 (oi := ⟨some 77, _, _, _, _, _⟩) (v := undef) rfl (by kernel_rfl) (by kernel_rfl) (by kernel_rfl) (fun _ _ _ h => h) (Or.inr ⟨by rfl, rfl⟩) hSF ?restF28
  try simp only [Act.put, List.setIfInBounds_toArray, List.set_cons_zero, List.set_cons_succ]
  refine takeH 10 (oi := ⟨some 78, _, _, _, _, _⟩) (v := ?_) rfl (by kernel_rfl) (by kernel_rfl) (by kernel_rfl) (fun _ _ _ h => h) (Or.inl ⟨by rfl, ?hyF29⟩) hSF ?restF29
  case hyF29 => (intro W hW; (try dsimp only at hW); go_simp; try with_reducible rfl)
  try simp only [Act.put, List.setIfInBounds_toArray, List.set_cons_zero, List.set_cons_succ]
  refine wpAnyH_done (by kernel_rfl) ?_ _
  clear k0F k1F k2F v0F v1F v2F
  have HB6 : Hid (Below w.heap.size w wF) := Lib.hid (HB5.out.trans ((hSF).mono HB5.out.size))
  have HK6 := Lib.hid (HK5.out.of ((hSF).block _ HK5.out.lt))
  have HV6 := Lib.hid (HV5.out.of ((hSF).block _ HV5.out.lt))
  generalize wF = w6 at HB6 HK6 HV6 ⊢
  have k0 := HK6.out.cell 0 _ rfl
  have k1' := HK6.out.cell 1 _ rfl
  have k2' := HK6.out.cell 2 _ rfl
  have v0 := HV6.out.cell 0 _ rfl
  have v1' := HV6.out.cell 1 _ rfl
  have v2' := HV6.out.cell 2 _ rfl
  have HWR := Lib.hid hwr
  clear hwr
  go_wp2_with (go_at_call 121; go_loud ((with_reducible refine (HG.out _ HB6.out).mono ?_); rintro e w7 ⟨rfl, hres⟩; have HRES := Lib.hid hres; clear hres))
  go_ret2
  exact ⟨rfl, HRES.out⟩
set_option maxHeartbeats 8000000 in
set_option maxRecDepth 20000 in
theorem tset_other_kind (h : TAt w X tb tp mp T s N) (ht : Tr w B tp D F T) (hB : ∀ b, B b → ¬ X b) (x v : Val) (hx : x.s.size ≤ maxLen) (hb : x.bad = false) (hN : N ≤ 100000) (hi : inA s.A (keyV x) = false) (hO : ownR s.R) (hv : v.own.k ≠ 0) (hk : ¬ (keyV x).k = 2) : Calls Try.prog 63 #[.pointer (some ⟨tb, 0, none⟩), x.v, v.v] w fun e w' => e = .returned (.tuple #[.int .i64 (otherM D F T s (keyV x) v.own).fresh, .int .i64 0]) ∧ TRes w w' X B tb tp mp D F (otherM D F T s (keyV x) v.own).T (otherM D F T s (keyV x) v.own).s (N + 1) := by
  have hke : keyE x = 0 := by unfold keyE; rw [hb]; rfl
  have HT := Lib.hid h
  obtain ⟨av, sv, rp, hd, har, hax, hst⟩ := h.headX
  obtain ⟨sa, sc, hsv, hsc1, hsc2⟩ := har.form
  subst hsv
  have hAl : s.A.length ≤ 1000000 := by have := h.1; omega
  have HAR0 : ∀ W, Below w.heap.size w W → Calls Try.prog 119 #[.pointer (some ⟨tb, 0, none⟩), (keyV x).v] W fun e w' => e = .returned (.tuple #[.int .i64 (if inA s.A (keyV x) then (keyV x).n - 1 else 0), .bool (inA s.A (keyV x))]) ∧ Below W.heap.size W w' := fun W hW => array1_calls sa s.A.length sc (keyV x) ((hd.of (hW.block tb hd.lt)).cell 0 _ rfl) (by omega) s.A rfl
  rw [hi] at HAR0
  have HAR := Lib.hid HAR0
  obtain ⟨x1, x2, x3⟩ := x
  obtain ⟨v1, v2, v3⟩ := v
  obtain ⟨⟨k1, k2, k3⟩, hkv⟩ : ∃ k, keyV ⟨x1, x2, x3⟩ = k := ⟨_, rfl⟩
  obtain ⟨⟨o1, o2, o3⟩, hov⟩ : ∃ o, Val.own ⟨v1, v2, v3⟩ = o := ⟨_, rfl⟩
  have HB0 : Hid (Below w.heap.size w ((w.alloc (.cells #[.int .i64 x1, .int .i64 x2, .string x3] 57)).alloc (.cells #[.int .i64 v1, .int .i64 v2, .string v3] 57))) := Lib.hid (by (repeat (first | exact Below.refl _ _ | (refine Below.alloc ?_ (by simp <;> omega) _))))
  have HK0 : Hid (Blk ((w.alloc (.cells #[.int .i64 x1, .int .i64 x2, .string x3] 57)).alloc (.cells #[.int .i64 v1, .int .i64 v2, .string v3] 57)) w.heap.size 57 [.int .i64 x1, .int .i64 x2, .string x3]) := Lib.hid ((Blk.new w [.int .i64 x1, .int .i64 x2, .string x3] 57).alloc _)
  have HV0 : Hid (Blk ((w.alloc (.cells #[.int .i64 x1, .int .i64 x2, .string x3] 57)).alloc (.cells #[.int .i64 v1, .int .i64 v2, .string v3] 57)) (w.heap.size + 1) 57 [.int .i64 v1, .int .i64 v2, .string v3]) := Lib.hid (by simpa using Blk.new (w.alloc (.cells #[.int .i64 x1, .int .i64 x2, .string x3] 57)) [.int .i64 v1, .int .i64 v2, .string v3] 57)
  have HKC := Lib.hid (fun (W : World) => key_calls ⟨x1, x2, x3⟩ W)
  have HOC := Lib.hid (fun (W : World) => own_calls ⟨v1, v2, v3⟩ W)
  rw [hkv, hke] at HKC
  rw [hov] at HOC
  have HQ1 := Lib.hid (keyV_key ⟨x1, x2, x3⟩ hb)
  have HQ2 := Lib.hid (own_own ⟨v1, v2, v3⟩)
  have hks : (keyV ⟨x1, x2, x3⟩).s.size ≤ maxLen := keyV_size hx
  rw [hkv] at HQ1 hks ⊢
  rw [hov] at HQ2 ⊢
  rw [hov] at hv
  rw [hkv] at hk
  have ho : (o1 != 0) = true := by simpa using hv
  have hk1 : (k1 = 2) = False := eq_false hk
  have HG0 : ∀ W, Below w.heap.size w W → Calls Try.prog 121 #[.pointer (some ⟨tb, 0, none⟩), Val.v ⟨k1, k2, k3⟩, Val.v ⟨o1, o2, o3⟩] W fun e w' => e = .returned (.int .i64 (otherM D F T s ⟨k1, k2, k3⟩ ⟨o1, o2, o3⟩).fresh) ∧ TRes w w' X B tb tp mp D F (otherM D F T s ⟨k1, k2, k3⟩ ⟨o1, o2, o3⟩).T (otherM D F T s ⟨k1, k2, k3⟩ ⟨o1, o2, o3⟩).s (N + 1) := fun W hW =>
    (tother_calls (h.below hW) (ht.below hW) hB hO ⟨k1, k2, k3⟩ ⟨o1, o2, o3⟩ hks HQ1.out.2 HQ1.out.1 HQ2.out hN).mono (fun e w' h => ⟨h.1, h.2.from hW⟩)
  have HG := Lib.hid HG0
  obtain ⟨gf, hgf⟩ : ∃ g, otherM D F T s ⟨k1, k2, k3⟩ ⟨o1, o2, o3⟩ = g := ⟨_, rfl⟩
  rw [hgf] at HG ⊢
  clear hgf HG0 hov hks hO HQ1 HQ2
  rw [hkv] at HAR
  rw [if_neg (by decide)] at HAR
  have HD := Lib.hid hd
  have HTR := Lib.hid ht
  have HBX := Lib.hid hB
  obtain ⟨m, hm⟩ : ∃ m, m = s.A.length := ⟨_, rfl⟩
  have EM := Lib.hid hm
  have hm0 : (m : Int) ≤ 1000000 := by omega
  have hm1 : (0 : Int) ≤ (m : Int) := by omega
  have HLN : Hid (∀ W, Below w.heap.size w W → Calls Try.prog 72 #[.pointer (some ⟨tb, 0, none⟩)] W fun e w' => e = .returned (.int .i64 (m : Nat)) ∧ Below W.heap.size W w') := Lib.hid (fun W hW => by rw [EM.out]; exact tlen_at ((HD.out.of (hW.block tb HD.out.lt)).cell 0 _ rfl))
  clear h ht hB hd har hax hst HAR0 hsc1 hsc2 hi hb hAl hm hke HD hkv hv hk
  go_enter Try.func63, Try.ntmps63
  go_upto_region 4 with (go_at_call 43; go_loud ((with_reducible refine (HKC.out _).mono ?_); rintro e w1 ⟨rfl, hb1⟩; have HB1 := Lib.hid (HB0.out.trans (hb1.mono HB0.out.size)); have HK1 := Lib.hid (HK0.out.of (hb1.block _ HK0.out.lt)); have HV1 := Lib.hid (HV0.out.of (hb1.block _ HV0.out.lt)); clear hb1; have k0 := HK1.out.cell 0 _ rfl; have k1' := HK1.out.cell 1 _ rfl; have k2' := HK1.out.cell 2 _ rfl; have z0 := HK1.out.frozen 0; have z1 := HK1.out.frozen 1; have z2 := HK1.out.frozen 2))
  obtain ⟨w2, hw2⟩ : ∃ z, z = (((w1.setCell ⟨w.heap.size, 0, none⟩ (.int .i64 k1)).setCell ⟨w.heap.size, 1, none⟩ (.int .i64 k2)).setCell ⟨w.heap.size, 2, none⟩ (.string k3)) := ⟨_, rfl⟩
  have HB2 : Hid (Below w.heap.size w w2) := Lib.hid (by rw [hw2]; exact ((HB1.out.setCell (Nat.le_refl _) _).setCell (Nat.le_refl _) _).setCell (Nat.le_refl _) _)
  have HK2 : Hid (Blk w2 w.heap.size 57 [.int .i64 k1, .int .i64 k2, .string k3]) := Lib.hid (by rw [hw2]; exact ((HK1.out.setSame 0 (.int .i64 k1)).setSame 1 (.int .i64 k2)).setSame 2 (.string k3))
  have hne1 : w.heap.size + 1 ≠ w.heap.size := by omega
  have HV2 : Hid (Blk w2 (w.heap.size + 1) 57 [.int .i64 v1, .int .i64 v2, .string v3]) := Lib.hid (by rw [hw2]; exact (((HV1.out.setOther (a := ⟨w.heap.size, 0, none⟩) hne1 _).setOther (a := ⟨w.heap.size, 1, none⟩) hne1 _).setOther (a := ⟨w.heap.size, 2, none⟩) hne1 _))
  rw [← hw2]
  clear hw2 k0 k1' k2' z0 z1 z2 HB1 HK1 HV1 HB0 HK0 HV0
  have v0 := HV2.out.cell 0 _ rfl
  have v1' := HV2.out.cell 1 _ rfl
  have v2' := HV2.out.cell 2 _ rfl
  have hu := Try.underlying57
  go_upto_region 7 with (go_at_call 59; go_loud ((with_reducible refine (HOC.out _).mono ?_); rintro e w3 ⟨rfl, hb1⟩; have HB3 := Lib.hid (HB2.out.trans (hb1.mono HB2.out.size)); have HK3 := Lib.hid (HK2.out.of (hb1.block _ HK2.out.lt)); have HV3 := Lib.hid (HV2.out.of (hb1.block _ HV2.out.lt)); clear hb1; have k0 := HV3.out.cell 0 _ rfl; have k1' := HV3.out.cell 1 _ rfl; have k2' := HV3.out.cell 2 _ rfl; have z0 := HV3.out.frozen 0; have z1 := HV3.out.frozen 1; have z2 := HV3.out.frozen 2))
  clear v0 v1' v2'
  obtain ⟨w4, hw4⟩ : ∃ z, z = (((w3.setCell ⟨w.heap.size + 1, 0, none⟩ (.int .i64 o1)).setCell ⟨w.heap.size + 1, 1, none⟩ (.int .i64 o2)).setCell ⟨w.heap.size + 1, 2, none⟩ (.string o3)) := ⟨_, rfl⟩
  have HB4 : Hid (Below w.heap.size w w4) := Lib.hid (by rw [hw4]; exact ((HB3.out.setCell (Nat.le_succ _) _).setCell (Nat.le_succ _) _).setCell (Nat.le_succ _) _)
  have HV4 : Hid (Blk w4 (w.heap.size + 1) 57 [.int .i64 o1, .int .i64 o2, .string o3]) := Lib.hid (by rw [hw4]; exact ((HV3.out.setSame 0 (.int .i64 o1)).setSame 1 (.int .i64 o2)).setSame 2 (.string o3))
  have hne2 : w.heap.size ≠ w.heap.size + 1 := by omega
  have HK4 : Hid (Blk w4 w.heap.size 57 [.int .i64 k1, .int .i64 k2, .string k3]) := Lib.hid (by rw [hw4]; exact (((HK3.out.setOther (a := ⟨w.heap.size + 1, 0, none⟩) hne2 _).setOther (a := ⟨w.heap.size + 1, 1, none⟩) hne2 _).setOther (a := ⟨w.heap.size + 1, 2, none⟩) hne2 _))
  rw [← hw4]
  clear hw4 k0 k1' k2' z0 z1 z2 HB3 HK3 HV3 HB2 HK2 HV2 hne1 hne2
  have v0 := HK4.out.cell 0 _ rfl
  have v1' := HK4.out.cell 1 _ rfl
  have v2' := HK4.out.cell 2 _ rfl
  go_upto_region 15 with (go_at_call 119; go_loud ((with_reducible refine (HAR.out _ HB4.out).mono ?_); rintro e w5 ⟨rfl, hb1⟩; have HB5 := Lib.hid (HB4.out.trans (hb1.mono HB4.out.size)); have HK5 := Lib.hid (HK4.out.of (hb1.block _ HK4.out.lt)); have HV5 := Lib.hid (HV4.out.of (hb1.block _ HV4.out.lt)); clear hb1))
  clear v0 v1' v2'
  have hwr : IntKind.i64.wrap ((m : Int) + 1) = (m : Int) + 1 := by rw [← wrap64_eq]; unfold RowKit.wrap64; omega
  clear hm0 hm1
  have hBF : Below w5.heap.size w5 ({ w5 with drawn := w5.drawn + 1 } : World) := ⟨rfl, rfl, rfl, Nat.le_refl _, fun _ _ => rfl⟩
  refine wp_region_held (S := Below w5.heap.size w5) (by kernel_rfl) ?_
  have hSF := hBF
  generalize ({ w5 with drawn := w5.drawn + 1 } : World) = wF at hSF hBF ⊢
  have hslF := hSF.size
  have k0F : ∀ W, Below w5.heap.size w5 W → W.cell? ⟨w.heap.size, 0, none⟩ = some (.int .i64 k1) := fun W hW => (HK5.out.of (hW.block _ HK5.out.lt)).cell 0 _ rfl
  have k1F : ∀ W, Below w5.heap.size w5 W → W.cell? ⟨w.heap.size, 1, none⟩ = some (.int .i64 k2) := fun W hW => (HK5.out.of (hW.block _ HK5.out.lt)).cell 1 _ rfl
  have k2F : ∀ W, Below w5.heap.size w5 W → W.cell? ⟨w.heap.size, 2, none⟩ = some (.string k3) := fun W hW => (HK5.out.of (hW.block _ HK5.out.lt)).cell 2 _ rfl
  have v0F : ∀ W, Below w5.heap.size w5 W → W.cell? ⟨w.heap.size + 1, 0, none⟩ = some (.int .i64 o1) := fun W hW => (HV5.out.of (hW.block _ HV5.out.lt)).cell 0 _ rfl
  have v1F : ∀ W, Below w5.heap.size w5 W → W.cell? ⟨w.heap.size + 1, 1, none⟩ = some (.int .i64 o2) := fun W hW => (HV5.out.of (hW.block _ HV5.out.lt)).cell 1 _ rfl
  have v2F : ∀ W, Below w5.heap.size w5 W → W.cell? ⟨w.heap.size + 1, 2, none⟩ = some (.string o3) := fun W hW => (HV5.out.of (hW.block _ HV5.out.lt)).cell 2 _ rfl
  refine takeH 0 (oi := ⟨some 68, _, _, _, _, _⟩) (v := ?_) rfl (by kernel_rfl) (by kernel_rfl) (by kernel_rfl) (fun _ _ _ h => h) (Or.inl ⟨by rfl, ?hyF30⟩) hSF ?restF30
  case hyF30 => (intro W hW; (try dsimp only at hW); go_simp; try with_reducible rfl)
  try simp only [Act.put, List.setIfInBounds_toArray, List.set_cons_zero, List.set_cons_succ]
  refine takeH 1 (oi := ⟨some 69, _, _, _, _, _⟩) (v := ?_) rfl (by kernel_rfl) (by kernel_rfl) (by kernel_rfl) (fun _ _ _ h => h) (Or.inl ⟨by rfl, ?hyF31⟩) hSF ?restF31
  case hyF31 => (intro W hW; (try dsimp only at hW); go_simp; try with_reducible rfl)
  try simp only [Act.put, List.setIfInBounds_toArray, List.set_cons_zero, List.set_cons_succ]
  refine takeH 2 (oi := ⟨some 70, _, _, _, _, _⟩) (v := ?_) rfl (by kernel_rfl) (by kernel_rfl) (by kernel_rfl) (fun _ _ _ h => h) (Or.inl ⟨by rfl, ?hyF32⟩) hSF ?restF32
  case hyF32 => (intro W hW; (try dsimp only at hW); go_simp; try with_reducible rfl)
  try simp only [Act.put, List.setIfInBounds_toArray, List.set_cons_zero, List.set_cons_succ]
  refine takeH 3 (oi := ⟨some 71, _, _, _, _, _⟩) (v := ?_) rfl (by kernel_rfl) (by kernel_rfl) (by kernel_rfl) (fun _ _ _ h => h) (Or.inl ⟨by rfl, ?hyF33⟩) hSF ?restF33
  case hyF33 => (intro W hW; (try dsimp only at hW); go_simp; try with_reducible rfl)
  try simp only [Act.put, List.setIfInBounds_toArray, List.set_cons_zero, List.set_cons_succ]
  refine takeH 4 (oi := ⟨some 72, _, _, _, _, _⟩) (v := ?_) rfl (by kernel_rfl) (by kernel_rfl) (by kernel_rfl) (fun _ _ _ h => h) (Or.inl ⟨by rfl, ?hyF34⟩) hSF ?restF34
  case hyF34 => (intro W hW; (try dsimp only at hW); go_simp; try with_reducible rfl)
  try simp only [Act.put, List.setIfInBounds_toArray, List.set_cons_zero, List.set_cons_succ]
  refine takeH 5 (oi := ⟨some 73, _, _, _, _, _⟩) (v := ?_) rfl (by kernel_rfl) (by kernel_rfl) (by kernel_rfl) (fun _ _ _ h => h) (Or.inl ⟨by rfl, ?hyF35⟩) hSF ?restF35
  case hyF35 => (intro W hW; (try dsimp only at hW); go_simp; try with_reducible rfl)
  try simp only [Act.put, List.setIfInBounds_toArray, List.set_cons_zero, List.set_cons_succ]
  refine one (i := 6) (by kernel_rfl) ?_
  refine wpOp_wanted rfl (by rfl) fun K hK => ?_
  go_simp
  with_reducible refine (HLN.out _ (HB5.out.trans ((hSF).mono HB5.out.size))).mono ?_
  rintro e wF36 ⟨rfl, hb⟩
  have SF36 : Below w5.heap.size w5 wF36 := hSF.trans (hb.mono hSF.size)
  clear hb
  refine hK _ _ ⟨SF36, ?_⟩
  clear hK K
  try simp only [Act.put, List.setIfInBounds_toArray, List.set_cons_zero, List.set_cons_succ]
  refine takeH 7 (oi := ⟨some 75, _, _, _, _, _⟩) (v := ?_) rfl (by kernel_rfl) (by kernel_rfl) (by kernel_rfl) (fun _ _ _ h => h) (Or.inl ⟨by rfl, ?hyF37⟩) SF36 ?restF37
  case hyF37 => (intro W hW; (try dsimp only at hW); go_simp; try with_reducible rfl)
  try simp only [Act.put, List.setIfInBounds_toArray, List.set_cons_zero, List.set_cons_succ]
  refine one (i := 8) (by kernel_rfl) ?_
  refine wpOp_wanted rfl (by rfl) fun K hK => ?_
  go_simp
  with_reducible refine (ofInt_calls _ _).mono ?_
  rintro e wF38 ⟨rfl, hb⟩
  have SF38 : Below w5.heap.size w5 wF38 := SF36.trans (hb.mono SF36.size)
  clear hb
  refine hK _ _ ⟨SF38, ?_⟩
  clear hK K
  try simp only [Act.put, List.setIfInBounds_toArray, List.set_cons_zero, List.set_cons_succ]
  refine takeH 9 (oi := ⟨some 77, _, _, _, _, _⟩) (v := ?_) rfl (by kernel_rfl) (by kernel_rfl) (by kernel_rfl) (fun _ _ _ h => h) (Or.inl ⟨by rfl, ?hyF39⟩) SF38 ?restF39
  case hyF39 => (intro W hW; (try dsimp only at hW); go_simp; try with_reducible rfl)
  try simp only [Act.put, List.setIfInBounds_toArray, List.set_cons_zero, List.set_cons_succ]
  refine takeH 10 (oi := ⟨some 78, _, _, _, _, _⟩) (v := ?_) rfl (by kernel_rfl) (by kernel_rfl) (by kernel_rfl) (fun _ _ _ h => h) (Or.inl ⟨by rfl, ?hyF40⟩) SF38 ?restF40
  case hyF40 => (intro W hW; (try dsimp only at hW); go_simp; try with_reducible rfl)
  try simp only [Act.put, List.setIfInBounds_toArray, List.set_cons_zero, List.set_cons_succ]
  refine wpAnyH_done (by kernel_rfl) ?_ _
  clear k0F k1F k2F v0F v1F v2F
  have HB6 : Hid (Below w.heap.size w wF38) := Lib.hid (HB5.out.trans ((SF38).mono HB5.out.size))
  have HK6 := Lib.hid (HK5.out.of ((SF38).block _ HK5.out.lt))
  have HV6 := Lib.hid (HV5.out.of ((SF38).block _ HV5.out.lt))
  generalize wF38 = w6 at HB6 HK6 HV6 ⊢
  have k0 := HK6.out.cell 0 _ rfl
  have k1' := HK6.out.cell 1 _ rfl
  have k2' := HK6.out.cell 2 _ rfl
  have v0 := HV6.out.cell 0 _ rfl
  have v1' := HV6.out.cell 1 _ rfl
  have v2' := HV6.out.cell 2 _ rfl
  have HWR := Lib.hid hwr
  clear hwr
  go_wp2_with (go_at_call 121; go_loud ((with_reducible refine (HG.out _ HB6.out).mono ?_); rintro e w7 ⟨rfl, hres⟩; have HRES := Lib.hid hres; clear hres))
  go_ret2
  exact ⟨rfl, HRES.out⟩
set_option maxHeartbeats 8000000 in
set_option maxRecDepth 20000 in
theorem tset_other_num (h : TAt w X tb tp mp T s N) (ht : Tr w B tp D F T) (hB : ∀ b, B b → ¬ X b) (x v : Val) (hx : x.s.size ≤ maxLen) (hb : x.bad = false) (hN : N ≤ 100000) (hi : inA s.A (keyV x) = false) (hO : ownR s.R) (hv : v.own.k ≠ 0) (hk : (keyV x).k = 2) (hn : ¬ (keyV x).n = (s.A.length : Int) + 1) : Calls Try.prog 63 #[.pointer (some ⟨tb, 0, none⟩), x.v, v.v] w fun e w' => e = .returned (.tuple #[.int .i64 (otherM D F T s (keyV x) v.own).fresh, .int .i64 0]) ∧ TRes w w' X B tb tp mp D F (otherM D F T s (keyV x) v.own).T (otherM D F T s (keyV x) v.own).s (N + 1) := by
  have hke : keyE x = 0 := by unfold keyE; rw [hb]; rfl
  have HT := Lib.hid h
  obtain ⟨av, sv, rp, hd, har, hax, hst⟩ := h.headX
  obtain ⟨sa, sc, hsv, hsc1, hsc2⟩ := har.form
  subst hsv
  have hAl : s.A.length ≤ 1000000 := by have := h.1; omega
  have HAR0 : ∀ W, Below w.heap.size w W → Calls Try.prog 119 #[.pointer (some ⟨tb, 0, none⟩), (keyV x).v] W fun e w' => e = .returned (.tuple #[.int .i64 (if inA s.A (keyV x) then (keyV x).n - 1 else 0), .bool (inA s.A (keyV x))]) ∧ Below W.heap.size W w' := fun W hW => array1_calls sa s.A.length sc (keyV x) ((hd.of (hW.block tb hd.lt)).cell 0 _ rfl) (by omega) s.A rfl
  rw [hi] at HAR0
  have HAR := Lib.hid HAR0
  obtain ⟨x1, x2, x3⟩ := x
  obtain ⟨v1, v2, v3⟩ := v
  obtain ⟨⟨k1, k2, k3⟩, hkv⟩ : ∃ k, keyV ⟨x1, x2, x3⟩ = k := ⟨_, rfl⟩
  obtain ⟨⟨o1, o2, o3⟩, hov⟩ : ∃ o, Val.own ⟨v1, v2, v3⟩ = o := ⟨_, rfl⟩
  have HB0 : Hid (Below w.heap.size w ((w.alloc (.cells #[.int .i64 x1, .int .i64 x2, .string x3] 57)).alloc (.cells #[.int .i64 v1, .int .i64 v2, .string v3] 57))) := Lib.hid (by (repeat (first | exact Below.refl _ _ | (refine Below.alloc ?_ (by simp <;> omega) _))))
  have HK0 : Hid (Blk ((w.alloc (.cells #[.int .i64 x1, .int .i64 x2, .string x3] 57)).alloc (.cells #[.int .i64 v1, .int .i64 v2, .string v3] 57)) w.heap.size 57 [.int .i64 x1, .int .i64 x2, .string x3]) := Lib.hid ((Blk.new w [.int .i64 x1, .int .i64 x2, .string x3] 57).alloc _)
  have HV0 : Hid (Blk ((w.alloc (.cells #[.int .i64 x1, .int .i64 x2, .string x3] 57)).alloc (.cells #[.int .i64 v1, .int .i64 v2, .string v3] 57)) (w.heap.size + 1) 57 [.int .i64 v1, .int .i64 v2, .string v3]) := Lib.hid (by simpa using Blk.new (w.alloc (.cells #[.int .i64 x1, .int .i64 x2, .string x3] 57)) [.int .i64 v1, .int .i64 v2, .string v3] 57)
  have HKC := Lib.hid (fun (W : World) => key_calls ⟨x1, x2, x3⟩ W)
  have HOC := Lib.hid (fun (W : World) => own_calls ⟨v1, v2, v3⟩ W)
  rw [hkv, hke] at HKC
  rw [hov] at HOC
  have HQ1 := Lib.hid (keyV_key ⟨x1, x2, x3⟩ hb)
  have HQ2 := Lib.hid (own_own ⟨v1, v2, v3⟩)
  have hks : (keyV ⟨x1, x2, x3⟩).s.size ≤ maxLen := keyV_size hx
  rw [hkv] at HQ1 hks ⊢
  rw [hov] at HQ2 ⊢
  rw [hov] at hv
  have ho : (o1 != 0) = true := by simpa using hv
  rw [hkv] at hk hn
  have hk1 : k1 = 2 := hk
  subst hk1
  have hk2 : (k2 = (s.A.length : Int) + 1) = False := eq_false hn
  have HG0 : ∀ W, Below w.heap.size w W → Calls Try.prog 121 #[.pointer (some ⟨tb, 0, none⟩), Val.v ⟨2, k2, k3⟩, Val.v ⟨o1, o2, o3⟩] W fun e w' => e = .returned (.int .i64 (otherM D F T s ⟨2, k2, k3⟩ ⟨o1, o2, o3⟩).fresh) ∧ TRes w w' X B tb tp mp D F (otherM D F T s ⟨2, k2, k3⟩ ⟨o1, o2, o3⟩).T (otherM D F T s ⟨2, k2, k3⟩ ⟨o1, o2, o3⟩).s (N + 1) := fun W hW =>
    (tother_calls (h.below hW) (ht.below hW) hB hO ⟨2, k2, k3⟩ ⟨o1, o2, o3⟩ hks HQ1.out.2 HQ1.out.1 HQ2.out hN).mono (fun e w' h => ⟨h.1, h.2.from hW⟩)
  have HG := Lib.hid HG0
  obtain ⟨gf, hgf⟩ : ∃ g, otherM D F T s ⟨2, k2, k3⟩ ⟨o1, o2, o3⟩ = g := ⟨_, rfl⟩
  rw [hgf] at HG ⊢
  clear hgf HG0 hov hks hO HQ1 HQ2
  rw [hkv] at HAR
  rw [if_neg (by decide)] at HAR
  have HD := Lib.hid hd
  have HTR := Lib.hid ht
  have HBX := Lib.hid hB
  obtain ⟨m, hm⟩ : ∃ m, m = s.A.length := ⟨_, rfl⟩
  have EM := Lib.hid hm
  have hm0 : (m : Int) ≤ 1000000 := by omega
  have hm1 : (0 : Int) ≤ (m : Int) := by omega
  have HLN : Hid (∀ W, Below w.heap.size w W → Calls Try.prog 72 #[.pointer (some ⟨tb, 0, none⟩)] W fun e w' => e = .returned (.int .i64 (m : Nat)) ∧ Below W.heap.size W w') := Lib.hid (fun W hW => by rw [EM.out]; exact tlen_at ((HD.out.of (hW.block tb HD.out.lt)).cell 0 _ rfl))
  rw [← hm] at hk2
  clear h ht hB hd har hax hst HAR0 hsc1 hsc2 hi hb hAl hm hke HD hkv hv hk hn
  go_enter Try.func63, Try.ntmps63
  go_upto_region 4 with (go_at_call 43; go_loud ((with_reducible refine (HKC.out _).mono ?_); rintro e w1 ⟨rfl, hb1⟩; have HB1 := Lib.hid (HB0.out.trans (hb1.mono HB0.out.size)); have HK1 := Lib.hid (HK0.out.of (hb1.block _ HK0.out.lt)); have HV1 := Lib.hid (HV0.out.of (hb1.block _ HV0.out.lt)); clear hb1; have k0 := HK1.out.cell 0 _ rfl; have k1' := HK1.out.cell 1 _ rfl; have k2' := HK1.out.cell 2 _ rfl; have z0 := HK1.out.frozen 0; have z1 := HK1.out.frozen 1; have z2 := HK1.out.frozen 2))
  obtain ⟨w2, hw2⟩ : ∃ z, z = (((w1.setCell ⟨w.heap.size, 0, none⟩ (.int .i64 2)).setCell ⟨w.heap.size, 1, none⟩ (.int .i64 k2)).setCell ⟨w.heap.size, 2, none⟩ (.string k3)) := ⟨_, rfl⟩
  have HB2 : Hid (Below w.heap.size w w2) := Lib.hid (by rw [hw2]; exact ((HB1.out.setCell (Nat.le_refl _) _).setCell (Nat.le_refl _) _).setCell (Nat.le_refl _) _)
  have HK2 : Hid (Blk w2 w.heap.size 57 [.int .i64 2, .int .i64 k2, .string k3]) := Lib.hid (by rw [hw2]; exact ((HK1.out.setSame 0 (.int .i64 2)).setSame 1 (.int .i64 k2)).setSame 2 (.string k3))
  have hne1 : w.heap.size + 1 ≠ w.heap.size := by omega
  have HV2 : Hid (Blk w2 (w.heap.size + 1) 57 [.int .i64 v1, .int .i64 v2, .string v3]) := Lib.hid (by rw [hw2]; exact (((HV1.out.setOther (a := ⟨w.heap.size, 0, none⟩) hne1 _).setOther (a := ⟨w.heap.size, 1, none⟩) hne1 _).setOther (a := ⟨w.heap.size, 2, none⟩) hne1 _))
  rw [← hw2]
  clear hw2 k0 k1' k2' z0 z1 z2 HB1 HK1 HV1 HB0 HK0 HV0
  have v0 := HV2.out.cell 0 _ rfl
  have v1' := HV2.out.cell 1 _ rfl
  have v2' := HV2.out.cell 2 _ rfl
  have hu := Try.underlying57
  go_upto_region 7 with (go_at_call 59; go_loud ((with_reducible refine (HOC.out _).mono ?_); rintro e w3 ⟨rfl, hb1⟩; have HB3 := Lib.hid (HB2.out.trans (hb1.mono HB2.out.size)); have HK3 := Lib.hid (HK2.out.of (hb1.block _ HK2.out.lt)); have HV3 := Lib.hid (HV2.out.of (hb1.block _ HV2.out.lt)); clear hb1; have k0 := HV3.out.cell 0 _ rfl; have k1' := HV3.out.cell 1 _ rfl; have k2' := HV3.out.cell 2 _ rfl; have z0 := HV3.out.frozen 0; have z1 := HV3.out.frozen 1; have z2 := HV3.out.frozen 2))
  clear v0 v1' v2'
  obtain ⟨w4, hw4⟩ : ∃ z, z = (((w3.setCell ⟨w.heap.size + 1, 0, none⟩ (.int .i64 o1)).setCell ⟨w.heap.size + 1, 1, none⟩ (.int .i64 o2)).setCell ⟨w.heap.size + 1, 2, none⟩ (.string o3)) := ⟨_, rfl⟩
  have HB4 : Hid (Below w.heap.size w w4) := Lib.hid (by rw [hw4]; exact ((HB3.out.setCell (Nat.le_succ _) _).setCell (Nat.le_succ _) _).setCell (Nat.le_succ _) _)
  have HV4 : Hid (Blk w4 (w.heap.size + 1) 57 [.int .i64 o1, .int .i64 o2, .string o3]) := Lib.hid (by rw [hw4]; exact ((HV3.out.setSame 0 (.int .i64 o1)).setSame 1 (.int .i64 o2)).setSame 2 (.string o3))
  have hne2 : w.heap.size ≠ w.heap.size + 1 := by omega
  have HK4 : Hid (Blk w4 w.heap.size 57 [.int .i64 2, .int .i64 k2, .string k3]) := Lib.hid (by rw [hw4]; exact (((HK3.out.setOther (a := ⟨w.heap.size + 1, 0, none⟩) hne2 _).setOther (a := ⟨w.heap.size + 1, 1, none⟩) hne2 _).setOther (a := ⟨w.heap.size + 1, 2, none⟩) hne2 _))
  rw [← hw4]
  clear hw4 k0 k1' k2' z0 z1 z2 HB3 HK3 HV3 HB2 HK2 HV2 hne1 hne2
  have v0 := HK4.out.cell 0 _ rfl
  have v1' := HK4.out.cell 1 _ rfl
  have v2' := HK4.out.cell 2 _ rfl
  go_upto_region 15 with (go_at_call 119; go_loud ((with_reducible refine (HAR.out _ HB4.out).mono ?_); rintro e w5 ⟨rfl, hb1⟩; have HB5 := Lib.hid (HB4.out.trans (hb1.mono HB4.out.size)); have HK5 := Lib.hid (HK4.out.of (hb1.block _ HK4.out.lt)); have HV5 := Lib.hid (HV4.out.of (hb1.block _ HV4.out.lt)); clear hb1))
  clear v0 v1' v2'
  have hwr : IntKind.i64.wrap ((m : Int) + 1) = (m : Int) + 1 := by rw [← wrap64_eq]; unfold RowKit.wrap64; omega
  clear hm0 hm1
  have hBF : Below w5.heap.size w5 ({ w5 with drawn := w5.drawn + 1 } : World) := ⟨rfl, rfl, rfl, Nat.le_refl _, fun _ _ => rfl⟩
  refine wp_region_held (S := Below w5.heap.size w5) (by kernel_rfl) ?_
  have hSF := hBF
  generalize ({ w5 with drawn := w5.drawn + 1 } : World) = wF at hSF hBF ⊢
  have hslF := hSF.size
  have k0F : ∀ W, Below w5.heap.size w5 W → W.cell? ⟨w.heap.size, 0, none⟩ = some (.int .i64 2) := fun W hW => (HK5.out.of (hW.block _ HK5.out.lt)).cell 0 _ rfl
  have k1F : ∀ W, Below w5.heap.size w5 W → W.cell? ⟨w.heap.size, 1, none⟩ = some (.int .i64 k2) := fun W hW => (HK5.out.of (hW.block _ HK5.out.lt)).cell 1 _ rfl
  have k2F : ∀ W, Below w5.heap.size w5 W → W.cell? ⟨w.heap.size, 2, none⟩ = some (.string k3) := fun W hW => (HK5.out.of (hW.block _ HK5.out.lt)).cell 2 _ rfl
  have v0F : ∀ W, Below w5.heap.size w5 W → W.cell? ⟨w.heap.size + 1, 0, none⟩ = some (.int .i64 o1) := fun W hW => (HV5.out.of (hW.block _ HV5.out.lt)).cell 0 _ rfl
  have v1F : ∀ W, Below w5.heap.size w5 W → W.cell? ⟨w.heap.size + 1, 1, none⟩ = some (.int .i64 o2) := fun W hW => (HV5.out.of (hW.block _ HV5.out.lt)).cell 1 _ rfl
  have v2F : ∀ W, Below w5.heap.size w5 W → W.cell? ⟨w.heap.size + 1, 2, none⟩ = some (.string o3) := fun W hW => (HV5.out.of (hW.block _ HV5.out.lt)).cell 2 _ rfl
  refine takeH 0 (oi := ⟨some 68, _, _, _, _, _⟩) (v := ?_) rfl (by kernel_rfl) (by kernel_rfl) (by kernel_rfl) (fun _ _ _ h => h) (Or.inl ⟨by rfl, ?hyF41⟩) hSF ?restF41
  case hyF41 => (intro W hW; (try dsimp only at hW); go_simp; try with_reducible rfl)
  try simp only [Act.put, List.setIfInBounds_toArray, List.set_cons_zero, List.set_cons_succ]
  refine takeH 1 (oi := ⟨some 69, _, _, _, _, _⟩) (v := ?_) rfl (by kernel_rfl) (by kernel_rfl) (by kernel_rfl) (fun _ _ _ h => h) (Or.inl ⟨by rfl, ?hyF42⟩) hSF ?restF42
  case hyF42 => (intro W hW; (try dsimp only at hW); go_simp; try with_reducible rfl)
  try simp only [Act.put, List.setIfInBounds_toArray, List.set_cons_zero, List.set_cons_succ]
  refine takeH 2 (oi := ⟨some 70, _, _, _, _, _⟩) (v := ?_) rfl (by kernel_rfl) (by kernel_rfl) (by kernel_rfl) (fun _ _ _ h => h) (Or.inl ⟨by rfl, ?hyF43⟩) hSF ?restF43
  case hyF43 => (intro W hW; (try dsimp only at hW); go_simp; try with_reducible rfl)
  try simp only [Act.put, List.setIfInBounds_toArray, List.set_cons_zero, List.set_cons_succ]
  refine takeH 3 (oi := ⟨some 71, _, _, _, _, _⟩) (v := ?_) rfl (by kernel_rfl) (by kernel_rfl) (by kernel_rfl) (fun _ _ _ h => h) (Or.inl ⟨by rfl, ?hyF44⟩) hSF ?restF44
  case hyF44 => (intro W hW; (try dsimp only at hW); go_simp; try with_reducible rfl)
  try simp only [Act.put, List.setIfInBounds_toArray, List.set_cons_zero, List.set_cons_succ]
  refine takeH 4 (oi := ⟨some 72, _, _, _, _, _⟩) (v := ?_) rfl (by kernel_rfl) (by kernel_rfl) (by kernel_rfl) (fun _ _ _ h => h) (Or.inl ⟨by rfl, ?hyF45⟩) hSF ?restF45
  case hyF45 => (intro W hW; (try dsimp only at hW); go_simp; try with_reducible rfl)
  try simp only [Act.put, List.setIfInBounds_toArray, List.set_cons_zero, List.set_cons_succ]
  refine takeH 5 (oi := ⟨some 73, _, _, _, _, _⟩) (v := ?_) rfl (by kernel_rfl) (by kernel_rfl) (by kernel_rfl) (fun _ _ _ h => h) (Or.inl ⟨by rfl, ?hyF46⟩) hSF ?restF46
  case hyF46 => (intro W hW; (try dsimp only at hW); go_simp; try with_reducible rfl)
  try simp only [Act.put, List.setIfInBounds_toArray, List.set_cons_zero, List.set_cons_succ]
  refine one (i := 6) (by kernel_rfl) ?_
  refine wpOp_wanted rfl (by rfl) fun K hK => ?_
  go_simp
  with_reducible refine (HLN.out _ (HB5.out.trans ((hSF).mono HB5.out.size))).mono ?_
  rintro e wF47 ⟨rfl, hb⟩
  have SF47 : Below w5.heap.size w5 wF47 := hSF.trans (hb.mono hSF.size)
  clear hb
  refine hK _ _ ⟨SF47, ?_⟩
  clear hK K
  try simp only [Act.put, List.setIfInBounds_toArray, List.set_cons_zero, List.set_cons_succ]
  refine takeH 7 (oi := ⟨some 75, _, _, _, _, _⟩) (v := ?_) rfl (by kernel_rfl) (by kernel_rfl) (by kernel_rfl) (fun _ _ _ h => h) (Or.inl ⟨by rfl, ?hyF48⟩) SF47 ?restF48
  case hyF48 => (intro W hW; (try dsimp only at hW); go_simp; try with_reducible rfl)
  try simp only [Act.put, List.setIfInBounds_toArray, List.set_cons_zero, List.set_cons_succ]
  refine one (i := 8) (by kernel_rfl) ?_
  refine wpOp_wanted rfl (by rfl) fun K hK => ?_
  go_simp
  with_reducible refine (ofInt_calls _ _).mono ?_
  rintro e wF49 ⟨rfl, hb⟩
  have SF49 : Below w5.heap.size w5 wF49 := SF47.trans (hb.mono SF47.size)
  clear hb
  refine hK _ _ ⟨SF49, ?_⟩
  clear hK K
  try simp only [Act.put, List.setIfInBounds_toArray, List.set_cons_zero, List.set_cons_succ]
  refine takeH 9 (oi := ⟨some 77, _, _, _, _, _⟩) (v := ?_) rfl (by kernel_rfl) (by kernel_rfl) (by kernel_rfl) (fun _ _ _ h => h) (Or.inl ⟨by rfl, ?hyF50⟩) SF49 ?restF50
  case hyF50 => (intro W hW; (try dsimp only at hW); go_simp; try with_reducible rfl)
  try simp only [Act.put, List.setIfInBounds_toArray, List.set_cons_zero, List.set_cons_succ]
  refine takeH 10 (oi := ⟨some 78, _, _, _, _, _⟩) (v := ?_) rfl (by kernel_rfl) (by kernel_rfl) (by kernel_rfl) (fun _ _ _ h => h) (Or.inl ⟨by rfl, ?hyF51⟩) SF49 ?restF51
  case hyF51 => (intro W hW; (try dsimp only at hW); go_simp; try with_reducible rfl)
  try simp only [Act.put, List.setIfInBounds_toArray, List.set_cons_zero, List.set_cons_succ]
  refine wpAnyH_done (by kernel_rfl) ?_ _
  clear k0F k1F k2F v0F v1F v2F
  have HB6 : Hid (Below w.heap.size w wF49) := Lib.hid (HB5.out.trans ((SF49).mono HB5.out.size))
  have HK6 := Lib.hid (HK5.out.of ((SF49).block _ HK5.out.lt))
  have HV6 := Lib.hid (HV5.out.of ((SF49).block _ HV5.out.lt))
  generalize wF49 = w6 at HB6 HK6 HV6 ⊢
  have k0 := HK6.out.cell 0 _ rfl
  have k1' := HK6.out.cell 1 _ rfl
  have k2' := HK6.out.cell 2 _ rfl
  have v0 := HV6.out.cell 0 _ rfl
  have v1' := HV6.out.cell 1 _ rfl
  have v2' := HV6.out.cell 2 _ rfl
  have HWR := Lib.hid hwr
  clear hwr
  go_wp2_with (go_at_call 121; go_loud ((with_reducible refine (HG.out _ HB6.out).mono ?_); rintro e w7 ⟨rfl, hres⟩; have HRES := Lib.hid hres; clear hres))
  go_ret2
  exact ⟨rfl, HRES.out⟩
end
end Go.Proofs.Ytmjfmfelbmbniaa

/- Layer 14: Set, whole; what stays true of a table. -/
namespace Go.Proofs.Ytmjfmfelbmbniaa
open Go.RowKit Go.Maps HK ShM
set_option linter.unusedVariables false
set_option linter.unusedSimpArgs false
section
variable {w w' w1 : World} {X Y B : Nat → Prop} {tb i M N d : Nat} {tp mp av sv : Value} {T : List Sh} {A S : List Val} {R : Pairs} {s : Tab} {D F : Int}
theorem otherM_key {x v : Val} (hb : x.bad = false) : otherM D F T s (keyV x) v.own = otherM D F T s x v := by
  unfold otherM
  rw [setF_own, setF_key hb, setL_own, setL_key hb, (keyV_key x hb).1]
theorem tset_calls (h : TAt w X tb tp mp T s N) (ht : Tr w B tp D F T) (hB : ∀ b, B b → ¬ X b) (hO : ownR s.R) (x v : Val) (hx : x.s.size ≤ maxLen) (hN : N ≤ 100000) :
    Calls Try.prog 63 #[.pointer (some ⟨tb, 0, none⟩), x.v, v.v] w fun e w' => e = .returned (.tuple #[.int .i64 (tsetM D F T s x v).fresh, .int .i64 (tsetM D F T s x v).e]) ∧ TRes w w' X B tb tp mp D F (tsetM D F T s x v).T (tsetM D F T s x v).s (N + 1) := by
  unfold tsetM
  cases hb : x.bad with
  | true =>
    rw [if_pos rfl]
    refine (tset_bad x v hb w).mono ?_
    rintro e w' ⟨rfl, h1⟩
    exact ⟨rfl, TRes.same (h.mono (Nat.le_succ _)) ht hB h1⟩
  | false =>
    rw [if_neg (by decide)]
    cases hi : inA s.A (keyV x) with
    | true =>
      rw [if_pos rfl]
      refine (tset_in h x v hb hN hi).mono ?_
      rintro e w' ⟨rfl, h1, h2⟩
      exact ⟨rfl, TRes.own (h1.mono (Nat.le_succ _)) ht hB (fun b hb => .inl hb) h2⟩
    | false =>
      rw [if_neg (by decide)]
      by_cases hv : v.own.k = 0
      · rw [if_neg (fun h => h.1 hv), ← otherM_key hb]
        have e0 : (otherM D F T s (keyV x) v.own).e = 0 := by unfold otherM; (repeat' split) <;> rfl
        rw [e0]
        exact tset_other_nil h ht hB x v hx hb hN hi hO hv
      · by_cases hk : (keyV x).k = 2
        · by_cases hn : (keyV x).n = (s.A.length : Int) + 1
          · have hkk : keyV x = intV (s.A.length + 1) := by
              have h1 : (keyV x).s = Val.e := by
                unfold keyV at hk ⊢
                rw [hb] at hk ⊢
                have hk : x.own.k = 2 := hk
                show x.own.s = Val.e
                obtain ⟨k, n, z⟩ := x
                have : k = 2 := by rw [own_k hb] at hk; exact hk
                subst this
                rfl
              have h0 : keyV x = ⟨(keyV x).k, (keyV x).n, (keyV x).s⟩ := rfl
              rw [h0, hk, hn, h1]
            rw [if_pos ⟨hv, hkk⟩, hkk]
            exact tset_grow h ht hB x v hx hb hN hi hv hkk
          · rw [if_neg (fun h => hn (by rw [h.2])), ← otherM_key hb]
            have e0 : (otherM D F T s (keyV x) v.own).e = 0 := by unfold otherM; (repeat' split) <;> rfl
            rw [e0]
            exact tset_other_num h ht hB x v hx hb hN hi hO hv hk hn
        · rw [if_neg (fun h => hk (by rw [h.2])), ← otherM_key hb]
          have e0 : (otherM D F T s (keyV x) v.own).e = 0 := by unfold otherM; (repeat' split) <;> rfl
          rw [e0]
          exact tset_other_kind h ht hB x v hx hb hN hi hO hv hk
end
/-! What stays true. -/
structure OwnT (s : Tab) : Prop where
  a : ∀ v ∈ s.A, v.own = v
  r : ownR s.R
theorem ownR_set {R : Pairs} (h : ownR R) (x v : Val) : ownR (setL R x v) := by
  unfold setL
  split
  · exact h
  · split
    · intro p hp
      unfold setA at hp
      obtain ⟨q, hq, rfl⟩ := List.mem_map.1 hp
      split
      · exact own_own v
      · exact h q hq
    · split
      · exact h
      · intro p hp
        rcases List.mem_append.1 hp with hp | hp
        · exact h p hp
        · rw [List.mem_singleton] at hp; subst hp; exact own_own v
theorem ownR_drop {R : Pairs} (h : ownR R) (k : Val) : ownR (dropA R k) := fun p hp => h p (List.mem_filter.1 hp).1
theorem getV_ownR {R : Pairs} (h : ownR R) (x : Val) (hk : (getV R x).k ≠ 0) : (getV R x).own = getV R x := by
  have h1 := (getV_some hk).2
  unfold getA at h1
  obtain ⟨p, hp, he⟩ := Option.map_eq_some_iff.1 h1
  rw [← he]
  exact h p (List.mem_of_find?_eq_some hp)
theorem own_pull : ∀ (f : Nat) (A : List Val) (R : Pairs), (∀ v ∈ A, v.own = v) → ownR R → (∀ v ∈ (pull f A R).1, v.own = v) ∧ ownR (pull f A R).2
  | 0, A, R, ha, hr => ⟨ha, hr⟩
  | f + 1, A, R, ha, hr => by
    by_cases h : (getV R (intV (A.length + 1))).k = 0
    · rw [pull_stop _ h]; exact ⟨ha, hr⟩
    · rw [pull_go f h]
      refine own_pull f _ _ (fun v hv => ?_) (ownR_drop hr _)
      rcases List.mem_append.1 hv with hv | hv
      · exact ha v hv
      · rw [List.mem_singleton] at hv; subst hv; exact getV_ownR hr _ h
theorem mem_trim {A : List Val} {v : Val} (h : v ∈ trim A) : v ∈ A := by
  unfold trim at h
  have h1 := (List.dropWhile_sublist _).subset (List.mem_reverse.1 h)
  exact List.mem_reverse.1 h1
theorem own_other {D F : Int} {T : List Sh} {s : Tab} (h : OwnT s) (x v : Val) : OwnT (otherM D F T s x v).s := by
  have h1 : (otherM D F T s x v).s.A = s.A ∧ (otherM D F T s x v).s.R = setL s.R x v := by unfold otherM; (repeat' split) <;> exact ⟨rfl, rfl⟩
  exact ⟨by rw [h1.1]; exact h.a, by rw [h1.2]; exact ownR_set h.r x v⟩
theorem own_set {D F : Int} {T : List Sh} {s : Tab} (h : OwnT s) (x v : Val) : OwnT (tsetM D F T s x v).s := by
  unfold tsetM
  split
  · exact h
  · split
    · refine ⟨fun u hu => ?_, h.r⟩
      rcases List.mem_or_eq_of_mem_set (mem_trim hu) with h1 | h1
      · exact h.a u h1
      · rw [h1]; exact own_own v
    · split
      · unfold growM
        have h1 := own_pull s.R.length (s.A ++ [v.own]) (dropA s.R (keyV x)) (fun u hu => by
          rcases List.mem_append.1 hu with hu | hu
          · exact h.a u hu
          · rw [List.mem_singleton] at hu; subst hu; exact own_own v) (ownR_drop h.r _)
        exact ⟨h1.1, h1.2⟩
      · exact own_other h x v
theorem own_none : OwnT ⟨[], [], false, 0⟩ := ⟨fun v hv => (by cases hv), fun p hp => (by cases hp)⟩
/-- The tree only grows. -/
theorem tset_ext (D F : Int) (T : List Sh) (s : Tab) (x v : Val) : ∃ U, (tsetM D F T s x v).T = T ++ U := by
  unfold tsetM otherM
  (repeat' split) <;> first | exact ⟨[], (List.append_nil _).symm⟩ | exact addM_extT ..
end Go.Proofs.Ytmjfmfelbmbniaa

/- Layer 14: tables over one tree, blocks beside them, and what each function leaves of all that. -/
namespace Go.Proofs.Ytmjfmfelbmbniaa
open Go.RowKit Go.Maps HK ShM
set_option linter.unusedVariables false
set_option linter.unusedSimpArgs false
abbrev T3 := Nat × Value × Tab
/-- Tables over one tree: all that they own is in U. -/
def TSX (w : World) (U B : Nat → Prop) (X : Nat → Nat → Prop) (q : Option Addr) (D F : Int) (T : List Sh) (N : Nat) (tabs : List T3) : Prop :=
  Tr w B (.pointer q) D F T ∧ (∀ i t, tabs[i]? = some t → TAt w (X i) t.1 (.pointer q) t.2.1 T t.2.2 N ∧ OwnT t.2.2) ∧ (∀ i j b, i < tabs.length → j < tabs.length → X i b → X j b → i = j) ∧ (∀ i b, i < tabs.length → X i b → ¬ B b) ∧ (∀ b, B b → U b) ∧ (∀ i b, i < tabs.length → X i b → U b)
def TS (w : World) (U : Nat → Prop) (q : Option Addr) (D F : Int) (T : List Sh) (N : Nat) (tabs : List T3) : Prop := ∃ (B : Nat → Prop) (X : Nat → Nat → Prop), TSX w U B X q D F T N tabs
section
variable {w w' w0 : World} {U Z Y B : Nat → Prop} {X : Nat → Nat → Prop} {q : Option Addr} {D F : Int} {T : List Sh} {N : Nat} {tabs : List T3}
theorem TS.below (h : TS w U q D F T N tabs) (hb : Below w.heap.size w w') : TS w' U q D F T N tabs := by
  obtain ⟨B, X, h1, h2, h3⟩ := h
  exact ⟨B, X, h1.below hb, fun i t ht => ⟨(h2 i t ht).1.below hb, (h2 i t ht).2⟩, h3⟩
theorem TS.of (h : TS w U q D F T N tabs) (hs : w.heap.size ≤ w'.heap.size) (hb : ∀ b, U b → w'.heap[b]? = w.heap[b]?) : TS w' U q D F T N tabs := by
  obtain ⟨B, X, h1, h2, h3, h4, h5, h6⟩ := h
  exact ⟨B, X, h1.of hs (fun b h => hb b (h5 b h)), fun i t ht => ⟨(h2 i t ht).1.of hs (fun b h => hb b (h6 i b (List.getElem?_eq_some_iff.1 ht).1 h)), (h2 i t ht).2⟩, h3, h4, h5, h6⟩
theorem TS.mono (h : TS w U q D F T N tabs) {M : Nat} (hM : N ≤ M) : TS w U q D F T M tabs := by
  obtain ⟨B, X, h1, h2, h3⟩ := h
  exact ⟨B, X, h1, fun i t ht => ⟨(h2 i t ht).1.mono hM, (h2 i t ht).2⟩, h3⟩
theorem TS.lt (h : TS w U q D F T N tabs) : ∃ V : Nat → Prop, TS w V q D F T N tabs ∧ (∀ b, V b → U b ∧ b < w.heap.size) := by
  obtain ⟨B, X, h1, h2, h3, h4, h5, h6⟩ := h
  refine ⟨fun b => U b ∧ b < w.heap.size, ⟨B, X, h1, h2, h3, h4, fun b hb => ⟨h5 b hb, h1.lt b hb⟩, fun i b hi hb => ⟨h6 i b hi hb, (h2 i _ (List.getElem?_eq_getElem hi)).1.lt b hb⟩⟩, fun b h => h⟩
theorem TS.wf (h : TS w U q D F T N tabs) : WF D T := by obtain ⟨B, X, h1, _⟩ := h; exact h1.wf
/-- A step on one of the tables. -/
theorem TSX.step {i tb N' : Nat} {mp mp' : Value} {s s' : Tab} {T' : List Sh} (h : TSX w U B X q D F T N tabs) (hi : tabs[i]? = some (tb, mp, s)) (hN : N ≤ N') (hT : ∃ V, T' = T ++ V) (hO : OwnT s') (hres : TRes w w' (X i) B tb (.pointer q) mp' D F T' s' N') :
    TS w' (fun b => U b ∨ w.heap.size ≤ b) q D F T' N' (tabs.set i (tb, mp', s')) ∧ Chg U w w' := by
  obtain ⟨h1, h2, h3, h4, h5, h6⟩ := h
  have hil := (List.getElem?_eq_some_iff.1 hi).1
  obtain ⟨X', B', g1, g2, g3, g4, g5, g6⟩ := hres
  obtain ⟨V, rfl⟩ := hT
  have hlt : ∀ j b, j < tabs.length → X j b → b < w.heap.size := fun j b hj hb => (h2 j _ (List.getElem?_eq_getElem hj)).1.lt b hb
  refine ⟨⟨B', fun j => if j = i then X' else X j, g2, fun j t ht => ?_, fun j k b hj hk => ?_, fun j b hj hb => ?_, fun b hb => (g4 b hb).imp (h5 b) id, fun j b hj hb => ?_⟩, g6.mono (fun b _ hb => hb.elim (h6 i b hil) (h5 b))⟩
  · by_cases e : j = i
    · subst e
      rw [List.getElem?_set_self hil] at ht
      cases ht
      simp only [if_pos]
      exact ⟨g1, hO⟩
    · rw [List.getElem?_set_ne (Ne.symm e)] at ht
      have hj := (List.getElem?_eq_some_iff.1 ht).1
      simp only [if_neg e]
      refine ⟨((h2 j t ht).1.of g6.size (fun b hb => g6.block b ((h2 j t ht).1.lt b hb) (fun hx => hx.elim (fun hx => e (h3 j i b hj hil hb hx)) (h4 j b hj hb)))).mono hN |>.grow V, (h2 j t ht).2⟩
  · rw [List.length_set] at hj hk
    by_cases e : j = i <;> by_cases e2 : k = i
    · intros; omega
    · simp only [if_pos e, if_neg e2]
      intro hb hb2
      rcases g3 b hb with h | h
      · have := h3 i k b hil hk h hb2; omega
      · have := hlt k b hk hb2; omega
    · simp only [if_neg e, if_pos e2]
      intro hb hb2
      rcases g3 b hb2 with h | h
      · have := h3 j i b hj hil hb h; omega
      · have := hlt j b hj hb; omega
    · simp only [if_neg e, if_neg e2]
      exact h3 j k b hj hk
  · rw [List.length_set] at hj
    by_cases e : j = i
    · simp only [if_pos e] at hb
      exact fun h => g5 b h hb
    · simp only [if_neg e] at hb
      intro h
      rcases g4 b h with h | h
      · exact h4 j b hj hb h
      · have := hlt j b hj hb; omega
  · rw [List.length_set] at hj
    by_cases e : j = i
    · simp only [if_pos e] at hb
      exact (g3 b hb).imp (h6 i b hil) id
    · simp only [if_neg e] at hb
      exact .inl (h6 j b hj hb)
theorem TS.new (h : TS w U q D F T N tabs) (hr : ksOf T 0 = []) : Calls Try.prog 62 #[.pointer q] w fun e w' => ∃ tb, e = .returned (.pointer (some ⟨tb, 0, none⟩)) ∧ TS w' (fun b => U b ∨ w.heap.size ≤ b) q D F T N (tabs ++ [(tb, .pointer none, ⟨[], [], false, 0⟩)]) ∧ Below w.heap.size w w' ∧ w.heap.size ≤ tb := by
  obtain ⟨B, X, h1, h2, h3, h4, h5, h6⟩ := h
  refine (tnew_calls q h1 hr).mono ?_
  rintro e w' ⟨Xn, tb, rfl, g1, g2, g3⟩
  have hlt : ∀ j b, j < tabs.length → X j b → b < w.heap.size := fun j b hj hb => (h2 j _ (List.getElem?_eq_getElem hj)).1.lt b hb
  refine ⟨tb, rfl, ⟨B, fun j => if j = tabs.length then Xn else X j, h1.below g3, fun j t ht => ?_, fun j k b hj hk => ?_, fun j b hj hb => ?_, fun b hb => .inl (h5 b hb), fun j b hj hb => ?_⟩, g3, g2 tb g1.own⟩
  · by_cases e : j = tabs.length
    · subst e
      simp at ht
      subst ht
      simp only [if_pos]
      exact ⟨g1.mono (Nat.zero_le _), own_none⟩
    · have hj : j < tabs.length := by have := (List.getElem?_eq_some_iff.1 ht).1; simp at this; omega
      rw [List.getElem?_append_left hj] at ht
      simp only [if_neg e]
      exact ⟨(h2 j t ht).1.below g3, (h2 j t ht).2⟩
  · rw [List.length_append, List.length_singleton] at hj hk
    by_cases e : j = tabs.length <;> by_cases e2 : k = tabs.length
    · intros; omega
    · simp only [if_pos e, if_neg e2]
      intro hb hb2
      have := hlt k b (by omega) hb2; have := g2 b hb; omega
    · simp only [if_neg e, if_pos e2]
      intro hb hb2
      have := hlt j b (by omega) hb; have := g2 b hb2; omega
    · simp only [if_neg e, if_neg e2]
      exact h3 j k b (by omega) (by omega)
  · rw [List.length_append, List.length_singleton] at hj
    by_cases e : j = tabs.length
    · simp only [if_pos e] at hb
      intro h; have := h1.lt b h; have := g2 b hb; omega
    · simp only [if_neg e] at hb
      exact h4 j b (by omega) hb
  · rw [List.length_append, List.length_singleton] at hj
    by_cases e : j = tabs.length
    · simp only [if_pos e] at hb
      exact .inr (g2 b hb)
    · simp only [if_neg e] at hb
      exact .inl (h6 j b (by omega) hb)
end
/-- Tables over one tree, and blocks beside them, all made since w0; what is in Z is another's. -/
def TL (w0 w : World) (Z : Nat → Prop) (q : Option Addr) (D F : Int) (T : List Sh) (N : Nat) (tabs : List T3) (L : List (Nat × TypeId × List Value)) : Prop :=
  ∃ U, TS w U q D F T N tabs ∧ (∀ b, U b → w0.heap.size ≤ b ∧ ¬ Z b) ∧ Below w0.heap.size w0 w ∧ (∀ b, Z b → b < w.heap.size) ∧ ∀ c ∈ L, Blk w c.1 c.2.1 c.2.2 ∧ ¬ U c.1 ∧ ¬ Z c.1
section
variable {w w' w0 : World} {U Z Y : Nat → Prop} {q : Option Addr} {D F : Int} {T : List Sh} {N : Nat} {tabs : List T3} {L : List (Nat × TypeId × List Value)} {c : Nat × TypeId × List Value}
theorem TL.bel (h : TL w0 w Z q D F T N tabs L) : Below w0.heap.size w0 w := by obtain ⟨U, h1, h2, h3, h4, h5⟩ := h; exact h3
theorem TL.blk (h : TL w0 w Z q D F T N tabs L) (hc : c ∈ L) : Blk w c.1 c.2.1 c.2.2 := by obtain ⟨U, h1, h2, h3, h4, h5⟩ := h; exact (h5 c hc).1
theorem TL.wf (h : TL w0 w Z q D F T N tabs L) : WF D T := by obtain ⟨U, h1, h2, h3, h4, h5⟩ := h; exact h1.wf
theorem TL.below (h : TL w0 w Z q D F T N tabs L) (hb : Below w.heap.size w w') : TL w0 w' Z q D F T N tabs L := by
  obtain ⟨U, h1, h2, h3, h4, h5⟩ := h
  exact ⟨U, h1.below hb, h2, h3.trans (hb.mono h3.size), fun b hz => Nat.lt_of_lt_of_le (h4 b hz) hb.size, fun c hc => ⟨(h5 c hc).1.of (hb.block _ (h5 c hc).1.lt), (h5 c hc).2⟩⟩
theorem TL.mono (h : TL w0 w Z q D F T N tabs L) {M : Nat} (hM : N ≤ M) : TL w0 w Z q D F T M tabs L := by
  obtain ⟨U, h1, h2⟩ := h
  exact ⟨U, h1.mono hM, h2⟩
theorem TL.start (h : Tr w Y (.pointer q) D F T) (hb : Below w0.heap.size w0 w) (hY : ∀ b, Y b → w0.heap.size ≤ b ∧ ¬ Z b) (hZ : ∀ b, Z b → b < w.heap.size) : TL w0 w Z q D F T 0 [] [] :=
  ⟨Y, ⟨Y, fun _ _ => False, h, fun i t ht => by simp at ht, fun i j b hi => absurd hi (Nat.not_lt_zero _), fun i b hi => absurd hi (Nat.not_lt_zero _), fun b hb => hb, fun i b hi => absurd hi (Nat.not_lt_zero _)⟩, hY, hb, hZ, fun c hc => by cases hc⟩
/-- A block beside them. -/
theorem TL.hold (h : TL w0 w Z q D F T N tabs L) {b : Nat} {t : TypeId} {cs : List Value} (hb : Blk w b t cs) (hn : b < w0.heap.size) (hz : ¬ Z b) : TL w0 w Z q D F T N tabs ((b, t, cs) :: L) := by
  obtain ⟨U, h1, h2, h3, h4, h5⟩ := h
  refine ⟨U, h1, h2, h3, h4, fun c hc => ?_⟩
  rcases List.mem_cons.1 hc with rfl | hc
  · exact ⟨hb, fun hu => by have := (h2 _ hu).1; have h6 : b < w0.heap.size := hn; omega, hz⟩
  · exact h5 c hc
/-- A block made since: of the memory made between two worlds. -/
theorem TL.made (h : TL w0 w Z q D F T N tabs L) (hw : Below w.heap.size w w') {b : Nat} {t : TypeId} {cs : List Value} (hb : Blk w' b t cs) (hn : w.heap.size ≤ b) : TL w0 w' Z q D F T N tabs ((b, t, cs) :: L) := by
  have h' := h.below hw
  obtain ⟨U, h1, h2, h3, h4, h5⟩ := h
  obtain ⟨V, g1, g2⟩ := h1.lt
  refine ⟨V, g1.below hw, fun b hb => h2 b (g2 b hb).1, h'.bel, fun b hz => Nat.lt_of_lt_of_le (h4 b hz) hw.size, fun c hc => ?_⟩
  rcases List.mem_cons.1 hc with rfl | hc
  · exact ⟨hb, fun hu => by have h6 := (g2 _ hu).2; have h7 : b < w.heap.size := h6; omega, fun hz => by have h6 := h4 _ hz; have h7 : b < w.heap.size := h6; omega⟩
  · exact ⟨h'.blk hc, fun hu => (h5 c hc).2.1 (g2 _ hu).1, (h5 c hc).2.2⟩
theorem TL.alloc (h : TL w0 w Z q D F T N tabs L) (cs : List Value) (t : TypeId) : TL w0 (w.alloc (.cells cs.toArray t)) Z q D F T N tabs ((w.heap.size, t, cs) :: L) :=
  h.made ((Below.refl _ _).alloc (Nat.le_refl _) _) (Blk.new w cs t) (Nat.le_refl _)
theorem TL.drop (h : TL w0 w Z q D F T N tabs (c :: L)) : TL w0 w Z q D F T N tabs L := by
  obtain ⟨U, h1, h2, h3, h4, h5⟩ := h
  exact ⟨U, h1, h2, h3, h4, fun c hc => h5 c (List.mem_cons_of_mem _ hc)⟩
theorem TL.sub (h : TL w0 w Z q D F T N tabs L) {M : List (Nat × TypeId × List Value)} (hs : ∀ c ∈ M, c ∈ L) : TL w0 w Z q D F T N tabs M := by
  obtain ⟨U, h1, h2, h3, h4, h5⟩ := h
  exact ⟨U, h1, h2, h3, h4, fun c hc => h5 c (hs c hc)⟩
/-- What another does in its own memory. -/
theorem TL.turn (h : TL w0 w Z q D F T N tabs L) {C Z' : Nat → Prop} (hc : Chg C w w') (hC : ∀ b, C b → Z b) (hC0 : ∀ b, C b → w0.heap.size ≤ b) (hZ : ∀ b, Z' b → Z b ∨ w.heap.size ≤ b) (hl : ∀ b, Z' b → b < w'.heap.size) : TL w0 w' Z' q D F T N tabs L := by
  obtain ⟨U, h1, h2, h3, h4, h5⟩ := h
  obtain ⟨V, g1, g2⟩ := h1.lt
  refine ⟨V, g1.of hc.size (fun b hb => hc.block b (g2 b hb).2 (fun h => (h2 b (g2 b hb).1).2 (hC b h))), fun b hb => ⟨(h2 b (g2 b hb).1).1, fun hz => ?_⟩, h3.trans (hc.below h3.size hC0), hl, fun c hc' => ⟨(h5 c hc').1.of (hc.block _ (h5 c hc').1.lt (fun h => (h5 c hc').2.2 (hC _ h))), fun hu => (h5 c hc').2.1 (g2 _ hu).1, fun hz => ?_⟩⟩
  · rcases hZ b hz with h | h
    · exact (h2 b (g2 b hb).1).2 h
    · have := (g2 b hb).2; omega
  · rcases hZ _ hz with h | h
    · exact (h5 c hc').2.2 h
    · have := (h5 c hc').1.lt; omega
/-- What a step on a table needs, and with what it leaves of all else. -/
theorem TL.opened (h : TL w0 w Z q D F T N tabs L) : ∃ (V B : Nat → Prop) (X : Nat → Nat → Prop), TSX w V B X q D F T N tabs ∧ ∀ (w' : World) (T' : List Sh) (N' : Nat) (tabs' : List T3), TS w' (fun b => V b ∨ w.heap.size ≤ b) q D F T' N' tabs' ∧ Chg V w w' →
    TL w0 w' Z q D F T' N' tabs' L ∧ Chg (fun b => w0.heap.size ≤ b ∧ ¬ Z b) w w' := by
  obtain ⟨U, h1, h2, h3, h4, h5⟩ := h
  obtain ⟨V, ⟨B, X, k1⟩, k2⟩ := h1.lt
  refine ⟨V, B, X, k1, fun w' T' N' tabs' hs => ?_⟩
  obtain ⟨g1, g2⟩ := hs
  have hV : ∀ b, V b → w0.heap.size ≤ b ∧ ¬ Z b := fun b hb => h2 b (k2 b hb).1
  refine ⟨⟨_, g1, fun b hb => ?_, h3.trans (g2.below h3.size (fun b hb => (hV b hb).1)), fun b hz => Nat.lt_of_lt_of_le (h4 b hz) g2.size, fun c hc => ⟨(h5 c hc).1.of (g2.block _ (h5 c hc).1.lt (fun h => (h5 c hc).2.1 (k2 _ h).1)), fun hu => ?_, (h5 c hc).2.2⟩⟩, g2.mono (fun b _ hb => hV b hb)⟩
  · rcases hb with hb | hb
    · exact hV b hb
    · exact ⟨by have := h3.size; omega, fun hz => by have := h4 b hz; omega⟩
  · rcases hu with hu | hu
    · exact (h5 c hc).2.1 (k2 _ hu).1
    · have := (h5 c hc).1.lt; omega
end
end Go.Proofs.Ytmjfmfelbmbniaa

/- Layer 14: the functions over tables that stand beside one another. -/
namespace Go.Proofs.Ytmjfmfelbmbniaa
open Go.RowKit Go.Maps HK ShM
set_option linter.unusedVariables false
set_option linter.unusedSimpArgs false
section
variable {w w' w0 : World} {U Z Y : Nat → Prop} {q : Option Addr} {D F : Int} {T : List Sh} {N i tb : Nat} {mp : Value} {s : Tab} {tabs : List T3} {L : List (Nat × TypeId × List Value)}
theorem TL.at (h : TL w0 w Z q D F T N tabs L) (hi : tabs[i]? = some (tb, mp, s)) : ∃ B X, Tr w B (.pointer q) D F T ∧ TAt w X tb (.pointer q) mp T s N ∧ (∀ b, B b → ¬ X b) ∧ OwnT s := by
  obtain ⟨U, ⟨B, X, h1, h2, h3, h4, _⟩, _⟩ := h
  exact ⟨B, X i, h1, (h2 i _ hi).1, fun b hb hx => h4 i b (List.getElem?_eq_some_iff.1 hi).1 hx hb, (h2 i _ hi).2⟩
theorem TL.get (h : TL w0 w Z q D F T N tabs L) (hi : tabs[i]? = some (tb, mp, s)) (x : Val) (hx : x.s.size ≤ maxLen) (hN : N ≤ 100000) : Calls Try.prog 67 #[.pointer (some ⟨tb, 0, none⟩), x.v] w fun e w' => e = .returned (tgetM s x).v ∧ Below w.heap.size w w' := by
  obtain ⟨B, X, h1, h2, h3, h4⟩ := h.at hi
  exact tget_calls h2 h1 x hx (by omega)
theorem TL.len (h : TL w0 w Z q D F T N tabs L) (hi : tabs[i]? = some (tb, mp, s)) : Calls Try.prog 72 #[.pointer (some ⟨tb, 0, none⟩)] w fun e w' => e = .returned (.int .i64 (s.A.length : Nat)) ∧ w = w' := by
  obtain ⟨B, X, h1, h2, h3, h4⟩ := h.at hi
  exact tlen_calls h2
theorem TL.mode (h : TL w0 w Z q D F T N tabs L) (hi : tabs[i]? = some (tb, mp, s)) : Calls Try.prog 64 #[.pointer (some ⟨tb, 0, none⟩)] w fun e w' => e = .returned (.int .i64 (if s.h then 2 else 1)) ∧ w = w' := by
  obtain ⟨B, X, h1, h2, h3, h4⟩ := h.at hi
  exact tmode_calls h2
theorem TL.shape (h : TL w0 w Z q D F T N tabs L) (hi : tabs[i]? = some (tb, mp, s)) : Calls Try.prog 65 #[.pointer (some ⟨tb, 0, none⟩)] w fun e w' => e = .returned (.int .i64 (if s.h then -1 else (s.i : Int))) ∧ w = w' := by
  obtain ⟨B, X, h1, h2, h3, h4⟩ := h.at hi
  exact tshape_calls h2
theorem TL.meta_ (h : TL w0 w Z q D F T N tabs L) (hi : tabs[i]? = some (tb, mp, s)) : Calls Try.prog 84 #[.pointer (some ⟨tb, 0, none⟩)] w fun e w' => e = .returned mp ∧ w = w' := by
  obtain ⟨B, X, h1, h2, h3, h4⟩ := h.at hi
  exact tmeta_calls h2
theorem TL.slotAt (h : TL w0 w Z q D F T N tabs L) (hi : tabs[i]? = some (tb, mp, s)) (j : Int) : Calls Try.prog 66 #[.pointer (some ⟨tb, 0, none⟩), .int .i64 j] w fun e w' => e = .returned (tatM s j).v ∧ Below w.heap.size w w' := by
  obtain ⟨B, X, h1, h2, h3, h4⟩ := h.at hi
  exact tat_calls h2 j
theorem TL.slot (h : TL w0 w Z q D F T N tabs L) (hi : tabs[i]? = some (tb, mp, s)) (z : ByteArray) (hz : z.size ≤ maxLen) : Calls Try.prog 132 #[.pointer (some ⟨tb, 0, none⟩), .string z] w fun e w' => e = .returned (.tuple #[.int .i64 ((slotK T s z).getD 0 : Nat), .bool (slotK T s z).isSome]) ∧ Below w.heap.size w w' := by
  obtain ⟨B, X, h1, h2, h3, h4⟩ := h.at hi
  exact tslotK_calls h2 h1 z hz
theorem TL.treeSlot (h : TL w0 w Z q D F T N tabs L) (j : Int) (z : ByteArray) (hz : z.size ≤ maxLen) : Calls Try.prog 34 #[.pointer q, .int .i64 j, .string z] w fun e w' => e = .returned (.tuple #[.int .i64 ((slotM T j z).getD 0 : Nat), .bool (slotM T j z).isSome]) ∧ w = w' := by
  obtain ⟨U, ⟨B, X, h1, _⟩, _⟩ := h
  exact h1.slot j z hz
theorem TL.treeKeys (h : TL w0 w Z q D F T N tabs L) (j : Int) : Calls Try.prog 30 #[.pointer q, .int .i64 j] w fun e w' => ∃ v, e = .returned v ∧ NewStrs w w' v (keysM T j) := by
  obtain ⟨U, ⟨B, X, h1, _⟩, _⟩ := h
  exact h1.keys j
theorem TL.set (h : TL w0 w Z q D F T N tabs L) (hi : tabs[i]? = some (tb, mp, s)) (x v : Val) (hx : x.s.size ≤ maxLen) (hN : N ≤ 100000) : Calls Try.prog 63 #[.pointer (some ⟨tb, 0, none⟩), x.v, v.v] w fun e w' =>
    e = .returned (.tuple #[.int .i64 (tsetM D F T s x v).fresh, .int .i64 (tsetM D F T s x v).e]) ∧ TL w0 w' Z q D F (tsetM D F T s x v).T (N + 1) (tabs.set i (tb, mp, (tsetM D F T s x v).s)) L ∧ Chg (fun b => w0.heap.size ≤ b ∧ ¬ Z b) w w' := by
  obtain ⟨V, B, X, hx0, hs⟩ := h.opened
  have hx1 := hx0
  obtain ⟨h1, h2, h3, h4, h5, h6⟩ := hx0
  have hil := (List.getElem?_eq_some_iff.1 hi).1
  refine (tset_calls (h2 i _ hi).1 h1 (fun b hb hx => h4 i b hil hx hb) (h2 i _ hi).2.r x v hx hN).mono ?_
  rintro e w' ⟨rfl, hr⟩
  exact ⟨rfl, hs w' _ _ _ (hx1.step hi (Nat.le_succ _) (tset_ext D F T s x v) (own_set (h2 i _ hi).2 x v) hr)⟩
theorem own_put {s : Tab} (h : OwnT s) (j : Int) (v : Val) : OwnT (tputM s j v) := by
  unfold tputM
  split
  · refine ⟨h.a, fun p hp => ?_⟩
    rcases List.mem_or_eq_of_mem_set hp with h1 | h1
    · exact h.r p h1
    · rw [h1]; exact own_own v
  · exact h
theorem TL.put (h : TL w0 w Z q D F T N tabs L) (hi : tabs[i]? = some (tb, mp, s)) (j : Int) (v : Val) : Calls Try.prog 68 #[.pointer (some ⟨tb, 0, none⟩), .int .i64 j, v.v] w fun e w' =>
    e = .returned (.bool (hasS s j)) ∧ TL w0 w' Z q D F T N (tabs.set i (tb, mp, tputM s j v)) L ∧ Chg (fun b => w0.heap.size ≤ b ∧ ¬ Z b) w w' := by
  obtain ⟨V, B, X, hx0, hs⟩ := h.opened
  have hx1 := hx0
  obtain ⟨h1, h2, h3, h4, h5, h6⟩ := hx0
  have hil := (List.getElem?_eq_some_iff.1 hi).1
  refine (tput_calls (h2 i _ hi).1 j v).mono ?_
  rintro e w' ⟨rfl, g1, g2⟩
  exact ⟨rfl, hs w' _ _ _ (hx1.step hi (Nat.le_refl _) ⟨[], (List.append_nil _).symm⟩ (own_put (h2 i _ hi).2 j v) (TRes.own g1 h1 (fun b hb hx => h4 i b hil hx hb) (fun b hb => .inl hb) g2))⟩
theorem TL.setMeta (h : TL w0 w Z q D F T N tabs L) (hi : tabs[i]? = some (tb, mp, s)) (r : Option Addr) : Calls Try.prog 90 #[.pointer (some ⟨tb, 0, none⟩), .pointer r] w fun e w' =>
    e = .returned (.tuple #[]) ∧ TL w0 w' Z q D F T N (tabs.set i (tb, .pointer r, s)) L ∧ Chg (fun b => w0.heap.size ≤ b ∧ ¬ Z b) w w' := by
  obtain ⟨V, B, X, hx0, hs⟩ := h.opened
  have hx1 := hx0
  obtain ⟨h1, h2, h3, h4, h5, h6⟩ := hx0
  have hil := (List.getElem?_eq_some_iff.1 hi).1
  refine (tsetMeta_calls (h2 i _ hi).1 r).mono ?_
  rintro e w' ⟨rfl, g1, g2⟩
  exact ⟨rfl, hs w' _ _ _ (hx1.step hi (Nat.le_refl _) ⟨[], (List.append_nil _).symm⟩ (h2 i _ hi).2 (TRes.own g1 h1 (fun b hb hx => h4 i b hil hx hb) (fun b hb => .inl hb) g2))⟩
theorem TL.new (h : TL w0 w Z q D F T N tabs L) (hr : ksOf T 0 = []) : Calls Try.prog 62 #[.pointer q] w fun e w' => ∃ tb, e = .returned (.pointer (some ⟨tb, 0, none⟩)) ∧ TL w0 w' Z q D F T N (tabs ++ [(tb, .pointer none, ⟨[], [], false, 0⟩)]) L ∧ Below w.heap.size w w' ∧ w.heap.size ≤ tb := by
  obtain ⟨V, B, X, hx0, hs⟩ := h.opened
  have h0 : TS w V q D F T N tabs := ⟨B, X, hx0⟩
  refine (h0.new hr).mono ?_
  rintro e w' ⟨tb, rfl, g1, g2, g3⟩
  exact ⟨tb, rfl, (hs w' _ _ _ ⟨g1, Chg.ofBelow g2⟩).1, g2, g3⟩
/-- shape.New, and tables over it. -/
theorem TL.newTree (deep fan : Int) (v : Value) (l : List ByteArray) (w0 w : World) (hw : Below w0.heap.size w0 w) (h : RdS w v l) (hl : ∀ s ∈ l, s.size ≤ maxLen) (hZ : ∀ b, Z b → b < w.heap.size) :
    Calls Try.prog 61 #[.int .i64 deep, .int .i64 fan, v] w fun e w' => ∃ sb, e = .returned (.pointer (some ⟨sb, 0, none⟩)) ∧ TL w0 w' Z (some ⟨sb, 0, none⟩) (min (max deep 0) 64) (min (max fan 0) 64) T0 0 [] [] ∧ Below w.heap.size w w' := by
  refine (new_calls deep fan v l w h hl).mono ?_
  rintro e w' ⟨sb, B, rfl, h1, h2, h3⟩
  exact ⟨sb, rfl, TL.start (Y := B) (.inr ⟨sb, _, rfl, h1⟩) (hw.trans (h3.mono hw.size)) (fun b hb => ⟨Nat.le_trans hw.size (h2 b hb), fun hz => by have := hZ b hz; have := h2 b hb; omega⟩) (fun b hz => Nat.lt_of_lt_of_le (hZ b hz) h3.size), h3⟩
end
end Go.Proofs.Ytmjfmfelbmbniaa
