/- The law ShapeStays: a shape that there is never changes. -/
import Derived.Test.YtmjfmfelbmbniaaShF
namespace Go.Proofs.Ytmjfmfelbmbniaa
open Go.RowKit Go.Maps HK ShM
set_option linter.unusedVariables false
set_option linter.unusedSimpArgs false
attribute [local go_sem ↓] run_max_two run_min_two
def play (deep fan : Int) (T : List Sh) (l : List (Int × ByteArray)) : List Sh := l.foldl (fun T s => (addM deep fan T s.1 s.2).T) T
theorem addM_ext (deep fan : Int) (T : List Sh) (i : Int) (z : ByteArray) : ∃ U, (addM deep fan T i z).T = T ++ U := by
  unfold addM
  split
  · exact ⟨[], by simp⟩
  · dsimp only
    split
    · exact ⟨[], by simp⟩
    · split
      · exact ⟨[], by simp⟩
      · split
        · exact ⟨[], by simp⟩
        · exact ⟨_, rfl⟩
theorem play_ext (deep fan : Int) (l : List (Int × ByteArray)) (T : List Sh) : ∃ U, play deep fan T l = T ++ U := by
  induction l generalizing T with
  | nil => exact ⟨[], by simp [play]⟩
  | cons x r ih =>
    obtain ⟨U, hU⟩ := addM_ext deep fan T x.1 x.2
    obtain ⟨V, hV⟩ := ih (addM deep fan T x.1 x.2).T
    exact ⟨U ++ V, by simp only [play, List.foldl_cons] at hV ⊢; rw [hV, hU, List.append_assoc]⟩
theorem play_snoc (deep fan : Int) (T : List Sh) (l : List (Int × ByteArray)) (k : Nat) (h : k < l.length) : play deep fan T (l.take (k + 1)) = (addM deep fan (play deep fan T (l.take k)) l[k].1 l[k].2).T := by
  unfold play
  rw [List.take_succ_eq_append_getElem h, List.foldl_append]; rfl
theorem keysM_ext (T U : List Sh) (i : Nat) (h : i < T.length) : keysM (T ++ U) i = keysM T i := by
  unfold keysM
  rw [if_neg (by simp; omega), if_neg (by omega), Int.toNat_natCast]
  unfold ksOf; rw [getD_append_left h]
theorem marksM_ext (names : List ByteArray) (T U : List Sh) (i : Nat) (h : i < T.length) : marksM names (T ++ U) i = marksM names T i := by
  unfold marksM
  rw [if_neg (by simp; omega), if_neg (by omega), Int.toNat_natCast]
  unfold ksOf; rw [getD_append_left h]
theorem Below.drewN {B : Nat} {a w : World} (h : Below B a w) (n : Nat) : Below B a (w.drewN n) := ⟨h.os, h.tape, h.output, h.size, h.block⟩
theorem bstep {w0 W W' : World} (h : Below w0.heap.size w0 W) (k : Below W.heap.size W W') : Below w0.heap.size w0 W' := h.trans (k.mono h.size)
theorem Strs.written {w w' : World} {v : Value} {ks : List ByteArray} (h : Strs w v ks) {row : Option Nat} (hg : w.grownBy w' row) (hr : ∀ g, row = some g → ∃ cs t fr, t ≠ 9 ∧ w.heap[g]? = some (.cells cs t fr)) : Strs w' v ks :=
  ownsRow_of h fun g hv => hg.block g (h.lt g hv).2 fun e => by
    obtain ⟨cs, t, fr, q1, q2⟩ := hr g e.symm
    rcases h.2 with ⟨q, _⟩ | ⟨g0, c0, cur, q, _, q3, _⟩
    · rw [q] at hv; cases hv
    · rw [q] at hv; cases hv
      have q3' : w.heap[g0]? = _ := q3
      rw [show w.heap[g0]? = _ from q2] at q3'
      simp at q3'
      exact q1 q3'.2.1
theorem ownsRow_written {w w' : World} {base : Nat} {e : TypeId} {size : Nat} {v : Value} {n : Nat} {xs : List Value} (h : w.ownsRow base e size v n xs) {row : Option Nat} (hg : w.grownBy w' row) (hr : ∀ g, row = some g → ∃ cs t fr, t ≠ e ∧ w.heap[g]? = some (.cells cs t fr)) : w'.ownsRow base e size v n xs :=
  ownsRow_of h fun g hv => hg.block g (h.lt g hv).2 fun e2 => by
    obtain ⟨cs, t, fr, q1, q2⟩ := hr g e2.symm
    rcases h.2 with ⟨q, _⟩ | ⟨g0, c0, cur, q, _, q3, _⟩
    · rw [q] at hv; cases hv
    · rw [q] at hv; cases hv
      have q3' : w.heap[g0]? = _ := q3
      rw [show w.heap[g0]? = _ from q2] at q3'
      simp at q3'
      exact q1 q3'.2.1
theorem ownsRow_typed {w : World} {base : Nat} {e : TypeId} {size : Nat} {v : Value} {n : Nat} {xs : List Value} (h : w.ownsRow base e size v n xs) (g : Nat) (hg : v.ownBlock = some g) : ∃ cs fr, w.heap[g]? = some (.cells cs e fr) := by
  rcases h.2 with ⟨q, _⟩ | ⟨g0, c0, cur, q, _, q3, _⟩
  · rw [q] at hg; cases hg
  · rw [q] at hg; cases hg; exact ⟨_, _, q3⟩
theorem ownsRow_form {w : World} {base : Nat} {e : TypeId} {size : Nat} {v : Value} {n : Nat} {xs : List Value} (h : w.ownsRow base e size v n xs) : ∃ a c, v = .slice a n c := by
  rcases h.2 with ⟨rfl, rfl⟩ | ⟨g0, c0, cur, rfl, _⟩
  · exact ⟨_, _, rfl⟩
  · exact ⟨_, _, rfl⟩
theorem info22 : (Try.prog.info? 22).map (fun i => (i.zero, i.size, i.bytes)) = some (some (.slice none 0 0), 1, 24) := by kernel_rfl
theorem info38 : (Try.prog.info? 38).map (fun i => (i.zero, i.size, i.bytes)) = some (some (.int .u64 0), 1, 8) := by kernel_rfl
/-- A row of X grows: the new one may lie in a new block. -/
theorem TBX.grow_row {X Y : Nat → Prop} {w0 w w' : World} {tb : Nat} {deep fan : Int} {names : List ByteArray} {T : List Sh} {v v' : Value} (h : TBX X w0 w tb deep fan names T) (hg : w.grownBy w' v.ownBlock) (hv : ∀ g, v.ownBlock = some g → w0.heap.size ≤ g ∧ X g)
    (hv' : v'.ownBlock = v.ownBlock ∨ v'.ownBlock = some w.heap.size) (hY : ∀ b, Y b → X b ∨ v'.ownBlock = some b) : TBX Y w0 w' tb deep fan names T := by
  have h1 : TBX (fun b => X b ∨ w.heap.size ≤ b) w0 w tb deep fan names T := h.weak fun b hb => hb
  have h2 := h1.written hg (fun g hg => ⟨(hv g hg).1, .inl (hv g hg).2⟩)
  refine h2.weak fun b hb => ?_
  rcases hY b hb with h | h
  · exact .inl (.inl h)
  · rcases hv' with e | e
    · exact .inl (.inl (hv b (e ▸ h)).2)
    · rw [e] at h; exact .inl (.inr (by have := Option.some.inj h; omega))
def XS (kv mv : Value) (vs : List Value) (b : Nat) : Prop := kv.ownBlock = some b ∨ mv.ownBlock = some b ∨ ∃ v ∈ vs, v.ownBlock = some b
/-- What has been collected of the first k shapes: their keys and their marks. -/
structure Acc (w4 wr : World) (tb : Nat) (D F : Int) (nm : List ByteArray) (TT T : List Sh) (kv mv : Value) (vs : List Value) (k : Nat) : Prop where
  tr : TBX (XS kv mv vs) w4 wr tb D F nm T
  kr : wr.ownsRow w4.heap.size 22 1 kv k vs
  st : ∀ (j : Nat) v, vs[j]? = some v → Strs wr v (keysM TT j) ∧ ∀ g, v.ownBlock = some g → w4.heap.size ≤ g
  mr : wr.ownsRow w4.heap.size 38 1 mv k ((List.range k).map fun j : Nat => .int .u64 (marksM nm TT (j : Int)))
theorem Acc.lt {w4 wr : World} {tb : Nat} {D F : Int} {nm : List ByteArray} {TT T : List Sh} {kv mv : Value} {vs : List Value} {k : Nat} (h : Acc w4 wr tb D F nm TT T kv mv vs k) : ∀ b, XS kv mv vs b → b < wr.heap.size := by
  rintro b (hb | hb | ⟨v, hv, hb⟩)
  · exact (h.kr.lt b hb).2
  · exact (h.mr.lt b hb).2
  · obtain ⟨j, hj⟩ := List.getElem?_of_mem hv
    exact ((h.st j v hj).1.lt b hb).2
/-- The collected rows stay, while other blocks change. -/
theorem Acc.move {w4 wr w' : World} {tb : Nat} {D F : Int} {nm : List ByteArray} {TT T T' : List Sh} {kv mv : Value} {vs : List Value} {k : Nat} (h : Acc w4 wr tb D F nm TT T kv mv vs k) (ht : TBX (XS kv mv vs) w4 w' tb D F nm T') (hb : ∀ b, XS kv mv vs b → w'.heap[b]? = wr.heap[b]?) : Acc w4 w' tb D F nm TT T' kv mv vs k where
  tr := ht
  kr := ownsRow_of h.kr fun g hg => hb g (.inl hg)
  st := fun j v hj => ⟨ownsRow_of (h.st j v hj).1 fun g hg => hb g (.inr (.inr ⟨v, List.mem_of_getElem? hj, hg⟩)), (h.st j v hj).2⟩
  mr := ownsRow_of h.mr fun g hg => hb g (.inr (.inl hg))
set_option maxHeartbeats 4000000 in
set_option maxRecDepth 20000 in
theorem stays_walk (deep fan : Int) (mv lv lv2 : Value) (ms : List ByteArray) (l l2 : List (Int × ByteArray)) (w : World) (hm : RdS w mv ms) (hms : ms.length ≤ 140737488355328) (hmz : ∀ s ∈ ms, s.size ≤ maxLen) (hl : RdT w lv l) (hl2 : RdT w lv2 l2) :
    Calls Try.prog 3 #[.agg #[.int .i64 deep, .int .i64 fan, mv], lv, lv2] w fun e w' => e = .returned (.bool true) ∧ Below w.heap.size w w' := by
  have HM := Lib.hid hm; have HL := Lib.hid hl; have HL2 := Lib.hid hl2; have HMS := Lib.hid hms; have HMZ := Lib.hid hmz
  obtain ⟨a1, c1, rfl, m1, m2, _⟩ := hm
  obtain ⟨a2, c2, rfl, q1, q2, q3, _⟩ := hl
  obtain ⟨a3, c3, rfl, r1, r2, r3, _⟩ := hl2
  clear hms hmz m1 m2
  have hbl := Blk.new w [.int .i64 deep, .int .i64 fan, .slice a1 ms.length c1] 24
  have hB1 : Below w.heap.size w (w.alloc (.cells #[.int .i64 deep, .int .i64 fan, .slice a1 ms.length c1] 24)) := (Below.refl _ _).alloc (Nat.le_refl _) _
  have HBL := Lib.hid hbl; have HB1 := Lib.hid hB1
  clear hbl hB1
  go_enter Try.func3, Try.ntmps3
  go_wp2_with fail
  generalize w.alloc (.cells #[.int .i64 deep, .int .i64 fan, .slice a1 ms.length c1] 24) = w1 at *
  refine (alive_calls _).mono ?_
  rintro e w2 ⟨rfl, hb⟩
  have hbl := HBL.out.of (hb.block _ HBL.out.lt)
  have HBL2 := Lib.hid hbl; have HB2 := Lib.hid (HB1.out.trans (hb.mono HB1.out.size))
  have x0 := hbl.cell 0 _ rfl; have x1 := hbl.cell 1 _ rfl; have x2 := hbl.cell 2 _ rfl
  clear hb hbl
  go_wp2_with fail
  refine (great_calls deep fan _ _ ms l w2 (HM.out.below HB2.out (Nat.le_refl _)) HMS.out (HL.out.below HB2.out (Nat.le_refl _))).mono ?_
  rintro e w3 ⟨g, rfl, hg, hb⟩
  have hbl := HBL2.out.of (hb.block _ HBL2.out.lt)
  have HBL3 := Lib.hid hbl; have HB3 := Lib.hid (HB2.out.trans (hb.mono HB2.out.size)); have HG := Lib.hid hg
  clear x0 x1 x2
  have x0 := hbl.cell 0 _ rfl; have x1 := hbl.cell 1 _ rfl; have x2 := hbl.cell 2 _ rfl
  clear hb hbl hg
  cases g with
  | true =>
    go_wp2
    go_ret
    exact ⟨rfl, HB3.out⟩
  | false =>
    go_wp2_with fail
    refine (great_calls deep fan _ _ ms l2 w3 (HM.out.below HB3.out (Nat.le_refl _)) HMS.out (HL2.out.below HB3.out (Nat.le_refl _))).mono ?_
    rintro e w4 ⟨g, rfl, hg, hb⟩
    have hbl := HBL3.out.of (hb.block _ HBL3.out.lt)
    have HBL4 := Lib.hid hbl; have HB4 := Lib.hid (HB3.out.trans (hb.mono HB3.out.size)); have HG2 := Lib.hid hg
    clear x0 x1 x2
    have x0 := hbl.cell 0 _ rfl; have x1 := hbl.cell 1 _ rfl; have x2 := hbl.cell 2 _ rfl
    clear hb hbl hg
    cases g with
    | true =>
      go_wp2
      go_ret
      exact ⟨rfl, HB4.out⟩
    | false =>
      have hms := (HG.out (by first | rfl | trivial)).2
      have HK := Lib.hid hms
      have hl4 := HL.out.below HB4.out (Nat.le_refl _)
      have hl24 := HL2.out.below HB4.out (Nat.le_refl _)
      obtain ⟨_, _, e2, _, _, _, hc2⟩ := hl4
      cases e2
      obtain ⟨_, _, e3, _, _, _, hc3⟩ := hl24
      cases e3
      have HC2 := Lib.hid hc2; have HC3 := Lib.hid hc3
      clear hms hc2 hc3
      obtain ⟨D, hD⟩ : ∃ D, D = min (max deep 0) 64 := ⟨_, rfl⟩
      obtain ⟨F, hF⟩ : ∃ F, F = min (max fan 0) 64 := ⟨_, rfl⟩
      have ED := Lib.hid hD; have EF := Lib.hid hF
      clear hD hF
      go_wp2_with fail
      refine (made_calls deep fan _ ms w4 (HM.out.below HB4.out (Nat.le_refl _)) HMZ.out HK.out).mono ?_
      rintro e w5 ⟨tb, B, rfl, h1, h2, h3⟩
      rw [← ED.out, ← EF.out] at h1
      have TA : Hid (TB w4 w5 tb D F (ms.take 64) T0) := Lib.hid ⟨B, h1, h2, h3⟩
      clear h1 h2 h3 B x0 x1 x2
      obtain ⟨n2, hn2⟩ : ∃ n, n = l.length := ⟨_, rfl⟩
      have E2 := Lib.hid hn2
      rw [← hn2] at q1 q3 ⊢
      obtain ⟨n3, hn3⟩ : ∃ n, n = l2.length := ⟨_, rfl⟩
      have E3 := Lib.hid hn3
      rw [← hn3] at r1 r3 ⊢
      clear hn2 hn3
      go_wp2_with fail
      go_loopw [31] (fun i wr => ∃ k : Nat, k ≤ n2 ∧ i = .int .i64 k ∧ Hid (TB w4 wr tb D F (ms.take 64) (play D F T0 (l.take k)))) (fun i _ => n2 - (intOf i).toNat)
      case atStart => exact ⟨0, Nat.zero_le _, rfl, TA⟩
      case round =>
        obtain ⟨k, hk, rfl, hT⟩ := hrel
        by_cases hlt : k < n2
        · have hkl : k < l.length := by rw [← E2.out]; exact hlt
          obtain ⟨b, off, rfl, hx, hy, hz⟩ := HC2.out k l[k] (List.getElem?_eq_getElem _)
          have hx' := (hT.out.bel.cell (World.block_lt_of_cell? w4 _ hx)).trans hx
          have hy' := (hT.out.bel.cell (World.block_lt_of_cell? w4 _ hy)).trans hy
          have HA := Lib.hid ((hT.out.alloc (.cells #[.int .i64 l[k].1, .string l[k].2] 31)).add l[k].1 l[k].2 hz)
          have HS := Lib.hid (play_snoc D F T0 l k hkl)
          clear hx hy hz
          generalize l[k] = x at *
          go_wp2_with (go_at_call 28; refine HA.out.mono ?_; rintro e w6 ⟨rfl, h1⟩; have H1 := Lib.hid h1; clear h1)
          go_roundw
          case rel => exact ⟨k + 1, by omega, by go_num, Lib.hid (by rw [HS.out]; exact H1.out)⟩
          case measure => simp [intOf]; omega
        · obtain rfl : k = n2 := by omega
          have hTk : Hid (TB w4 wr tb D F (ms.take 64) (play D F T0 l)) := Lib.hid (by have h0 := hT.out; have e : l.take k = l := List.take_of_length_le (by rw [← E2.out]; exact Nat.le_refl _); rwa [e] at h0)
          clear hT
          obtain ⟨TT, hTT⟩ : ∃ TT, TT = play D F T0 l := ⟨_, rfl⟩
          rw [← hTT] at hTk
          clear hTT
          have HLN := Lib.hid hTk.out.len
          have hN : TT.length ≤ 4096 := hTk.out.wf.le
          obtain ⟨N, hNN⟩ : ∃ N, N = TT.length := ⟨_, rfl⟩
          have EN := Lib.hid hNN
          rw [← hNN] at hN HLN
          clear hNN
          obtain ⟨i0, hi0, iz0, iz1, iz2⟩ := info_parts info22
          obtain ⟨j0, hj0, jz0, jz1, jz2⟩ := info_parts info38
          go_wp2_with (go_at_call 29; refine HLN.out.mono ?_; rintro e w6 ⟨rfl, rfl⟩)
          go_loopw [11, 12, 45] (fun kv mv i wr => ∃ (k : Nat) (vs : List Value), k ≤ N ∧ i = .int .i64 k ∧ Hid (Acc w4 wr tb D F (ms.take 64) TT TT kv mv vs k)) (fun _ _ i _ => N - (intOf i).toNat)
          case atStart => exact ⟨0, [], Nat.zero_le _, rfl, Lib.hid ⟨hTk.out.x.weak (fun b hb => by rcases hb with h | h | ⟨v, h, _⟩; cases h; cases h; cases h), World.ownsRow_nil _ _ _ _, fun j v h => by simp at h, World.ownsRow_nil _ _ _ _⟩⟩
          case round =>
            obtain ⟨q, vs, hq, rfl, hA⟩ := hrel
            by_cases hlt2 : q < N
            · obtain ⟨ka, kc, hkv⟩ := ownsRow_form hA.out.kr
              obtain ⟨ma, mc, hmv⟩ := ownsRow_form hA.out.mr
              subst hkv; subst hmv
              have HKE := Lib.hid (hA.out.tr.toTB.keys q)
              go_upto_region 18 with (first | (go_at_call 30; (with_reducible refine HKE.out.mono ?_); rintro e w7 ⟨v, rfl, hnv, hT7⟩; obtain ⟨va, vc, hvf⟩ := ownsRow_form hnv.1; subst hvf; have HNV := Lib.hid hnv; have HR7 := Lib.hid (ownsRow_of (w' := w7) hA.out.kr (fun g hg => hnv.2.2.block g (hA.out.kr.lt g hg).2)); have HZ7 := Lib.hid hT7.bel.size; clear hnv hT7) | (at_builtin; refine wpList_append_own_at _ rfl _ _ 35 rfl w4.heap.size 22 i0 (.slice none 0 0) 1 24 Try.underlying35 hi0 iz0 iz1 iz2 rfl (by decide) _ q _ rfl (HR7.out.alloc _) ⟨w7.heap.size, 0, none⟩ 1 1 [.slice va _ vc] rfl rfl (cell_one_new _ _ _) (by simp [Value.oneCell']) (by unfold maxLen; omega) (by omega) (by have := HZ7.out; simp; omega) ?_; intro v8 w8 hown8 hg8 _ hat8; have HO8 := Lib.hid hown8; have HG8 := Lib.hid hg8; have HAT8 := Lib.hid hat8; clear hown8 hg8 hat8))
              have hl : vs.length = q := by have := hA.out.kr.1; simpa using this
              have A7 : Acc w4 (w7.alloc (.cells #[.slice va (keysM TT q).length vc] 22)) tb D F (ms.take 64) TT TT (.slice ka q kc) (.slice ma q mc) vs q := by
                have hbw : Below wr.heap.size wr (w7.alloc (.cells #[.slice va (keysM TT q).length vc] 22)) := HNV.out.2.2.alloc HNV.out.2.2.size _
                exact hA.out.move (hA.out.tr.below hbw) (fun b hb => hbw.block b (hA.out.lt b hb))
              have hx8 : TBX (fun b => XS (.slice ka q kc) (.slice ma q mc) vs b ∨ (Value.slice va (keysM TT q).length vc).ownBlock = some b) w4 (w7.alloc (.cells #[.slice va (keysM TT q).length vc] 22)) tb D F (ms.take 64) TT := by
                have hbw : Below wr.heap.size wr (w7.alloc (.cells #[.slice va (keysM TT q).length vc] 22)) := HNV.out.2.2.alloc HNV.out.2.2.size _
                refine (hA.out.tr.weak fun b hb => ?_).below hbw
                rcases hb with hb | hb
                · exact .inl hb
                · exact .inr (HNV.out.2.1 b hb)
              have hr : ∀ g, (Value.slice ka q kc).ownBlock = some g → ∃ cs fr, (w7.alloc (.cells #[.slice va (keysM TT q).length vc] 22)).heap[g]? = some (.cells cs 22 fr) := fun g hg => ownsRow_typed A7.kr g hg
              have A8 : Acc w4 w8 tb D F (ms.take 64) TT TT v8 (.slice ma q mc) (vs ++ [.slice va (keysM TT q).length vc]) (q + 1) ∨ True := .inr trivial
              have t8 : TBX (XS v8 (.slice ma q mc) (vs ++ [.slice va (keysM TT q).length vc])) w4 w8 tb D F (ms.take 64) TT := by
                refine hx8.grow_row HG8.out (fun g hg => ⟨(A7.kr.lt g hg).1, .inl (.inl hg)⟩) HAT8.out fun b hb => ?_
                rcases hb with hb | hb | ⟨v, hv, hb⟩
                · exact .inr hb
                · exact .inl (.inl (.inr (.inl hb)))
                · rcases List.mem_append.1 hv with hv | hv
                  · exact .inl (.inl (.inr (.inr ⟨v, hv, hb⟩)))
                  · simp at hv; subst hv; exact .inl (.inr hb)
              have s8 : ∀ (j : Nat) v, (vs ++ [.slice va (keysM TT q).length vc])[j]? = some v → Strs w8 v (keysM TT j) ∧ ∀ g, v.ownBlock = some g → w4.heap.size ≤ g := by
                intro j v hj
                rw [List.getElem?_append] at hj
                split at hj
                · exact ⟨Strs.written (A7.st j v hj).1 HG8.out (fun g hg => by obtain ⟨cs, fr, hc⟩ := hr g hg; exact ⟨cs, 22, fr, by decide, hc⟩), (A7.st j v hj).2⟩
                · rename_i hge
                  have hj0 : j - vs.length = 0 := by
                    rcases Nat.eq_zero_or_pos (j - vs.length) with h | h
                    · exact h
                    · rw [List.getElem?_eq_none (by simp; omega)] at hj; cases hj
                  rw [hj0] at hj
                  simp at hj
                  subst hj
                  have ej : j = q := by omega
                  subst ej
                  exact ⟨Strs.written (HNV.out.1.alloc _) HG8.out (fun g hg => by obtain ⟨cs, fr, hc⟩ := hr g hg; exact ⟨cs, 22, fr, by decide, hc⟩), fun g hg => Nat.le_trans hA.out.tr.bel.size (HNV.out.2.1 g hg)⟩
              have m8 : w8.ownsRow w4.heap.size 38 1 (.slice ma q mc) q _ := ownsRow_written A7.mr HG8.out (fun g hg => by obtain ⟨cs, fr, hc⟩ := hr g hg; exact ⟨cs, 22, fr, by decide, hc⟩)
              have HT8 := Lib.hid t8; have HS8 := Lib.hid s8; have HM8 := Lib.hid m8; have HL := Lib.hid hl
              have HMK := Lib.hid (t8.toTB.marks q)
              clear A7 hx8 hr A8 t8 s8 m8 hl
              go_wp2_with (first | (go_at_call 31; (with_reducible refine HMK.out.mono ?_); rintro e w9 ⟨rfl, rfl⟩) | (at_builtin; refine wpList_append_own_at _ rfl _ _ 36 rfl w4.heap.size 38 j0 (.int .u64 0) 1 8 Try.underlying36 hj0 jz0 jz1 jz2 rfl (by decide) _ q _ rfl (HM8.out.alloc _) ⟨w8.heap.size, 0, none⟩ 1 1 [.int .u64 (marksM (ms.take 64) TT q)] rfl rfl (cell_one_new _ _ _) (by simp [Value.oneCell']) (by unfold maxLen; omega) (by omega) (by have := HT8.out.bel.size; simp; omega) ?_; intro v9 w9 hown9 hg9 _ hat9; have HO9 := Lib.hid hown9; have HG9 := Lib.hid hg9; have HAT9 := Lib.hid hat9; clear hown9 hg9 hat9))
              go_roundw
              case rel =>
                have hr9 : ∀ g, (Value.slice ma q mc).ownBlock = some g → ∃ cs fr, (w8.alloc (.cells #[.int .u64 (marksM (ms.take 64) TT q)] 38)).heap[g]? = some (.cells cs 38 fr) := fun g hg => ownsRow_typed (HM8.out.alloc _) g hg
                refine ⟨q + 1, vs ++ [.slice va (keysM TT q).length vc], by omega, by go_num, Lib.hid ⟨(HT8.out.alloc (.cells #[.int .u64 (marksM (ms.take 64) TT q)] 38)).grow_row HG9.out (fun g hg => ⟨(HM8.out.lt g hg).1, .inr (.inl hg)⟩) HAT9.out (fun b hb => ?_), ownsRow_written (HO8.out.alloc _) HG9.out (fun g hg => by obtain ⟨cs, fr, hc⟩ := hr9 g hg; exact ⟨cs, 38, fr, by decide, hc⟩), fun j v hj => ⟨Strs.written ((HS8.out j v hj).1.alloc _) HG9.out (fun g hg => by obtain ⟨cs, fr, hc⟩ := hr9 g hg; exact ⟨cs, 38, fr, by decide, hc⟩), (HS8.out j v hj).2⟩, ?_⟩⟩
                · rcases hb with hb | hb | hb
                  · exact .inl (.inl hb)
                  · exact .inr hb
                  · exact .inl (.inr (.inr hb))
                · rw [List.range_succ, List.map_append]
                  exact HO9.out
              case measure => simp [intOf]; omega
            · obtain rfl : q = N := by omega
              obtain ⟨ka, kc, hkv⟩ := ownsRow_form hA.out.kr
              obtain ⟨ma, mc, hmv⟩ := ownsRow_form hA.out.mr
              subst hkv; subst hmv
              go_wp2_with fail
              go_loopw [63] (fun i wr' => ∃ k : Nat, k ≤ n3 ∧ i = .int .i64 k ∧ Hid (Acc w4 wr' tb D F (ms.take 64) TT (play D F TT (l2.take k)) (.slice ka q kc) (.slice ma q mc) vs q)) (fun i _ => n3 - (intOf i).toNat)
              case atStart => exact ⟨0, Nat.zero_le _, rfl, hA⟩
              case round =>
                obtain ⟨p, hp, rfl, hA2⟩ := hrel
                by_cases hlt3 : p < n3
                · have hkl : p < l2.length := by rw [← E3.out]; exact hlt3
                  obtain ⟨b, off, rfl, hx, hy, hz⟩ := HC3.out p l2[p] (List.getElem?_eq_getElem _)
                  have hx' := (hA2.out.tr.bel.cell (World.block_lt_of_cell? w4 _ hx)).trans hx
                  have hy' := (hA2.out.tr.bel.cell (World.block_lt_of_cell? w4 _ hy)).trans hy
                  have hA3 := hA2.out.move (hA2.out.tr.alloc (.cells #[.int .i64 l2[p].1, .string l2[p].2] 31)) (fun b hb => Below.heap_alloc _ _ _ (hA2.out.lt b hb))
                  have HAD := Lib.hid (hA3.tr.add hA3.lt l2[p].1 l2[p].2 hz)
                  have HS := Lib.hid (play_snoc D F TT l2 p hkl)
                  have HA3 := Lib.hid hA3
                  clear hx hy hz hA3
                  generalize l2[p] = x at *
                  go_wp2_with (go_at_call 28; (with_reducible refine HAD.out.mono ?_); rintro e w6 ⟨rfl, h1⟩; have H1 := Lib.hid h1; clear h1)
                  go_roundw
                  case rel => exact ⟨p + 1, by omega, by go_num, Lib.hid (by rw [HS.out]; exact HA3.out.move H1.out.1 H1.out.2.2)⟩
                  case measure => simp [intOf]; omega
                · obtain rfl : p = n3 := by omega
                  have hA4 : Acc w4 wr tb D F (ms.take 64) TT (play D F TT l2) (.slice ka q kc) (.slice ma q mc) vs q := by have h0 := hA2.out; have e : l2.take p = l2 := List.take_of_length_le (by rw [← E3.out]; exact Nat.le_refl _); rwa [e] at h0
                  obtain ⟨U, hU⟩ := play_ext D F l2 TT
                  rw [hU] at hA4
                  have HA4 := Lib.hid hA4
                  have HLN2 := Lib.hid hA4.tr.toTB.len
                  have hlen1 : q ≤ (TT ++ U).length := by rw [EN.out]; simp
                  have hlen2 : (TT ++ U).length ≤ 4096 := hA4.tr.wf.le
                  obtain ⟨N2, hN2⟩ : ∃ N, N = (TT ++ U).length := ⟨_, rfl⟩
                  rw [← hN2] at hlen1 hlen2 HLN2
                  have hd1 : decide (N2 < q) = false := decide_eq_false (by omega)
                  have hd2 : decide ((4096 : Int) < (N2 : Int)) = false := decide_eq_false (by omega)
                  clear hA2 hA4 hU hN2
                  go_wp2_with (go_at_call 29; (with_reducible refine HLN2.out.mono ?_); rintro e w6 ⟨rfl, rfl⟩)
                  go_loopw [84] (fun i wr' => ∃ k : Nat, k ≤ q ∧ i = .int .i64 k ∧ Hid (Acc w4 wr' tb D F (ms.take 64) TT (TT ++ U) (.slice ka q kc) (.slice ma q mc) vs q)) (fun i _ => q - (intOf i).toNat)
                  case atStart => exact ⟨0, Nat.zero_le _, rfl, HA4⟩
                  case round =>
                    obtain ⟨r, hr, rfl, hA5⟩ := hrel
                    have HBX := Lib.hid (hA5.out.tr.bel)
                    by_cases hlt4 : r < q
                    · have hvl : vs.length = q := by have := hA5.out.kr.1; simpa using this
                      have hrT : r < TT.length := by rw [← EN.out]; exact hlt4
                      obtain ⟨v, hv⟩ : ∃ v, vs[r]? = some v := ⟨vs[r]'(by omega), List.getElem?_eq_getElem (by omega)⟩
                      obtain ⟨hst, _⟩ := hA5.out.st r v hv
                      obtain ⟨va, vc, hvf⟩ := ownsRow_form hst
                      subst hvf
                      obtain ⟨g, hg⟩ : ∃ g, ka = some ⟨g, 0, none⟩ := by
                        rcases hA5.out.kr.2 with ⟨_, h0⟩ | ⟨g, _, _, h0, _⟩
                        · omega
                        · cases h0; exact ⟨g, rfl⟩
                      obtain ⟨g2, hg2⟩ : ∃ g, ma = some ⟨g, 0, none⟩ := by
                        rcases hA5.out.mr.2 with ⟨_, h0⟩ | ⟨g, _, _, h0, _⟩
                        · omega
                        · cases h0; exact ⟨g, rfl⟩
                      subst hg; subst hg2
                      have y1 := hA5.out.kr.cells (g := g) rfl r _ hv
                      have y2 := hA5.out.mr.cells (g := g2) rfl r (.int .u64 (marksM (ms.take 64) TT (r : Int))) (by simp [hlt4])
                      rw [addr0] at y1 y2
                      have y3 := (HBX.out.cell (World.block_lt_of_cell? w4 _ (HBL4.out.cell 0 _ rfl))).trans (HBL4.out.cell 0 _ rfl)
                      have z1 : ∀ W, Below wr.heap.size wr W → W.cell? ⟨g, r, none⟩ = some (.slice va (keysM TT r).length vc) := fun W hW => (hW.cell (World.block_lt_of_cell? wr _ y1)).trans y1
                      have z2 : ∀ W, Below wr.heap.size wr W → W.cell? ⟨g2, r, none⟩ = some (.int .u64 (marksM (ms.take 64) TT (r : Int))) := fun W hW => (hW.cell (World.block_lt_of_cell? wr _ y2)).trans y2
                      have z3 : ∀ W, Below wr.heap.size wr W → W.cell? ⟨w.heap.size, 0, none⟩ = some (.int .i64 deep) := fun W hW => (hW.cell (World.block_lt_of_cell? wr _ y3)).trans y3
                      have b0 : (0 : Int) ≤ (r : Int) := by omega
                      have b1 : (r : Int) < (q : Int) := by omega
                      have hlk : (keysM TT r).length ≤ D := by
                        have h1 := (hA5.out.tr.wf).keys r (by simp; omega)
                        have h2 : keysM TT r = ((TT ++ U).getD r ([], 0)).1 := by
                          unfold keysM
                          rw [if_neg (by omega), Int.toNat_natCast]
                          unfold ksOf; rw [getD_append_left hrT]
                        rw [h2]; exact h1
                      have hd : decide (max 0 (min deep 64) < ((keysM TT r).length : Int)) = false := decide_eq_false (by have := ED.out; omega)
                      have HST := Lib.hid (RdS.of_row hst)
                      have HTB := Lib.hid hA5.out.tr.toTB
                      have EK := Lib.hid (keysM_ext TT U r hrT)
                      have EM := Lib.hid (marksM_ext (ms.take 64) TT U r hrT)
                      have HMK := fun (W : World) (hW : Below wr.heap.size wr W) => (HTB.out.below hW).marks (r : Int)
                      rw [EM.out] at HMK
                      have HMK' := Lib.hid HMK
                      clear y1 y2 y3 hst hlk HMK hrT hvl hv
                      generalize hkk : (keysM TT r) = kk at *
                      generalize marksM (ms.take 64) TT (r : Int) = mm at *
                      have hS0 : Below wr.heap.size wr wr := Below.refl _ _
                      go_upto_region 30 with (fail)
                      go_region_held3 (fun W => Below wr.heap.size wr W) (first | assumption | exact (Below.refl _ _).drew | exact bstep (by assumption) (by assumption) | exact Below.drewN (by assumption) _) (first | (go_at_call 30; (refine (TB.keys (TB.below HTB.out (by assumption)) _).mono ?_); rintro e w7 ⟨xv, rfl, hnv, hT7⟩; rw [EK.out] at hnv; have hb7 := hnv.2.2) | (go_at_call 32; refine (same_calls _ _ kk kk _ (RdS.of_row hnv.1) (RdS.below HST.out (by assumption) (Nat.le_refl _))).mono ?_; rintro e w8 ⟨rfl, n8, rfl⟩; rw [decide_eq_true rfl]) | (go_at_call 31; refine (HMK'.out _ (by assumption)).mono ?_; rintro e w9 ⟨rfl, rfl⟩))
                      all_goals
                        go_wp2
                        go_roundw
                        case rel => exact ⟨r + 1, by omega, by go_num, Lib.hid (hA5.out.move (hA5.out.tr.below (by assumption)) (fun b hb => Below.block (by assumption) b (hA5.out.lt b hb)))⟩
                        case measure => simp [intOf]; omega
                    · obtain rfl : r = q := by omega
                      go_wp2
                      go_ret
                      exact ⟨rfl, HB4.out.trans (HBX.out.mono HB4.out.size)⟩
end Go.Proofs.Ytmjfmfelbmbniaa
