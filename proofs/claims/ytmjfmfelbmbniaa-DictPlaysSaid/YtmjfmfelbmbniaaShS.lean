/- Layer 12: the reference's tree, a key added. -/
import Derived.Test.YtmjfmfelbmbniaaShR
import Derived.Test.YtmjfmfelbmbniaaRG2
namespace Go.Proofs.Ytmjfmfelbmbniaa
open Go.RowKit Go.Maps HK ShM
set_option linter.unusedVariables false
set_option linter.unusedSimpArgs false
attribute [local go_sem ↓] run_max_two run_min_two
/-- An append behind a row: the old elements stay where they were, too. -/
theorem run_append_keep {P : Program} (w : World) (base : Nat) (t ty e : TypeId) (i : TypeInfo) (z : Value) (size bytes : Nat) (ht : P.underlying t = some (.slice e)) (hi : P.info? e = some i) (hz : i.zero = some z)
    (hsize : i.size = size) (hby : i.bytes = bytes) (hzs : z.cells.size = size) (hsz : 0 < size)
    (g cap n : Nat) (xs : List Value) (hown : w.ownsRow base e size (.slice (some ⟨g, 0, none⟩) n cap) n xs)
    (a : Addr) (m c : Nat) (news : List Value) (hl : news.length = m * size) (hnews : ∀ j u, news[j]? = some u → w.cell? (a.add j) = some u) (h1 : ∀ u ∈ news, u.oneCell' = true)
    (h63 : n + m ≤ maxLen) (hbytes : (n + m) * bytes ≤ 140737488355328) (hbase : base ≤ w.heap.size) :
    ∃ v' w', (Builtin.append_ #[t, t] ty #[.slice (some ⟨g, 0, none⟩) n cap, .slice (some a) m c]).run P w = .ok v' w' ∧ w'.ownsRow base e size v' (n + m) (xs ++ news) ∧ w.grownBy w' (some g) ∧
      (v'.ownBlock = some g ∨ v'.ownBlock = some w.heap.size) ∧ ∀ j u, xs[j]? = some u → w'.cell? ⟨g, j, none⟩ = some u := by
  obtain ⟨v', w', hr, ho, hg, _, hat⟩ := run_append_own_at w base t ty e i z size bytes ht hi hz hsize hby hzs hsz (.slice (some ⟨g, 0, none⟩) n cap) n xs hown a m c news hl hnews h1 h63 hbytes hbase
  refine ⟨v', w', hr, ho, hg, hat, fun j u hj => ?_⟩
  rcases hat with hat | hat
  · have := ho.cells (g := g) hat j u (by rw [List.getElem?_append_left (List.getElem?_eq_some_iff.1 hj).1]; exact hj)
    rwa [addr0] at this
  · have hlt := (hown.lt g rfl).2
    have hold := hown.cells (g := g) rfl j u hj
    rw [addr0] at hold
    by_cases hroom : n + m ≤ cap
    · exfalso
      subst hsize
      rcases hown.2 with ⟨q, _⟩ | ⟨g1, cap1, cur, q, hbg, hg1, hnc, hcm, hcs, htake⟩
      · cases q
      · cases q
        have hfit : n * i.size + news.length ≤ cur.size := by rw [hl, hcs, ← Nat.add_mul]; exact Nat.mul_le_mul_right _ hroom
        have hr2 := run_append_room (P := P) w t ty e i ht hi g n cap cur hg1 a m c news hl hnews h1 hroom hfit
        rw [hr] at hr2
        injection hr2 with e1 e2
        rw [e1] at hat
        have : g = w.heap.size := Option.some.inj hat
        omega
    · subst hsize
      have holds : ∀ j u, xs[j]? = some u → w.cell? ((⟨g, 0, none⟩ : Addr).add j) = some u := hown.cells (g := g) rfl
      have hm : maxLen = 9223372036854775807 := rfl
      have hr2 := run_append_grow (P := P) w t ty e i z ht hi hz ⟨g, 0, none⟩ n cap xs hown.1 holds a m c news hl hnews (by omega) (by omega) (growslice_fits (by omega) (by rw [hby]; exact hbytes))
      rw [hr] at hr2
      injection hr2 with e1 e2
      subst e2
      refine (World.cell?_of_block ?_).trans hold
      exact Below.heap_alloc w.drew _ _ hlt
theorem info3 : (Try.prog.info? 3).map (fun i => (i.zero, i.size, i.bytes)) = some (some (.int .i64 0), 1, 8) := by kernel_rfl
theorem kidFrom_here {T : List Sh} {i : Int} {z : ByteArray} {j : Nat} (hj : j < T.length) (h0 : kidFrom (T.take j) 0 i z = none) (h1 : T[j].2 = i) (h2 : T[j].1.getLast? = some z) : kidFrom T 0 i z = some j := by
  have e : T = T.take j ++ (T[j] :: T.drop (j + 1)) := by rw [← List.drop_eq_getElem_cons hj, List.take_append_drop]
  rw [e, kidFrom_append, h0]
  simp only [kidFrom]
  rw [if_pos ⟨h1, h2⟩, List.length_take]
  congr 1; omega
theorem kidFrom_on {T : List Sh} {i : Int} {z : ByteArray} {j : Nat} (hj : j < T.length) (h0 : kidFrom (T.take j) 0 i z = none) (h1 : ¬ (T[j].2 = i ∧ T[j].1.getLast? = some z)) : kidFrom (T.take (j + 1)) 0 i z = none := by
  rw [List.take_succ_eq_append_getElem hj, kidFrom_append, h0]
  simp only [kidFrom]
  rw [if_neg h1]
theorem kidCount_on {T : List Sh} {i : Int} {j : Nat} (hj : j < T.length) : kidCount (T.take (j + 1)) i = kidCount (T.take j) i + if T[j].2 = i then 1 else 0 := by
  rw [List.take_succ_eq_append_getElem hj, kidCount_append]
  congr 1
  unfold kidCount
  by_cases h : T[j].2 = i <;> simp [h]
/-- What the world is, but for the row of shapes, which may have grown. -/
structure SA (w : World) (sb k : Nat) (v : Value) (W : World) : Prop where
  chg : Chg (fun b => b = sb) w W
  row : W.cell? ⟨sb, k, none⟩ = some v
def RefGrown (X : Nat → Prop) (w w' : World) (rb : Nat) (D F : Int) (nm : List ByteArray) (T' : List Sh) : Prop := ∃ X', RefAt w' X' rb D F nm T' ∧ Chg X w w' ∧ ∀ b, X' b → X b ∨ w.heap.size ≤ b
theorem RefGrown.same {X : Nat → Prop} {w : World} {rb : Nat} {D F : Int} {nm : List ByteArray} {T : List Sh} (h : RefAt w X rb D F nm T) : RefGrown X w w rb D F nm T := ⟨X, h, Chg.refl _ _, fun b hb => .inl hb⟩
section
variable {w : World} {X : Nat → Prop} {rb : Nat} {D F : Int} {nm : List ByteArray} {T : List Sh} {nv : Value} {sb sc pb pc : Nat} {kv : Nat → Value}
theorem blk_ne_row {w : World} {b g base : Nat} {t e : TypeId} {cs : List Value} {v : Value} {n size : Nat} {xs : List Value} (h : Blk w b t cs) (k : w.ownsRow base e size v n xs) (hg : v.ownBlock = some g) (hne : t ≠ e) : b ≠ g := by
  rintro rfl
  obtain ⟨cs2, fr, e2⟩ := ownsRow_typed k b hg
  have := (show w.heap[b]? = _ from h).symm.trans e2
  simp at this
  exact hne this.2.1
theorem row_ne_row {w : World} {b g base base' : Nat} {t e : TypeId} {v v' : Value} {n size n' size' : Nat} {xs xs' : List Value} (h : w.ownsRow base' t size' v' n' xs') (k : w.ownsRow base e size v n xs) (hb : v'.ownBlock = some b) (hg : v.ownBlock = some g) (hne : t ≠ e) : b ≠ g := by
  rintro rfl
  obtain ⟨cs1, fr1, e1⟩ := ownsRow_typed h b hb
  obtain ⟨cs2, fr, e2⟩ := ownsRow_typed k b hg
  have := e1.symm.trans e2
  simp at this
  exact hne this.2.1
theorem RefIn.ne_s (h : RefIn w X rb D F nm T nv sb sc pb pc kv) : rb ≠ sb := blk_ne_row h.hd h.rows rfl (by decide)
theorem RefIn.ne_p (h : RefIn w X rb D F nm T nv sb sc pb pc kv) : rb ≠ pb := blk_ne_row h.hd h.par rfl (by decide)
theorem RefIn.grow (h : RefIn w X rb D F nm T nv sb sc pb pc kv) (k : Nat) (hk : k < T.length) (z : ByteArray) (hT' : WF D (T ++ [(ksOf T k ++ [z], (k : Int))])) (W : World) (g8 c8 g10 c10 : Nat) (v6 : Value)
    (hC : Chg (fun b => b = rb ∨ b = sb ∨ b = pb) w W)
    (hhd : Blk W rb 48 [.int .i64 D, .int .i64 F, nv, .slice (some ⟨g8, 0, none⟩) (T.length + 1) c8, .slice (some ⟨g10, 0, none⟩) (T.length + 1) c10])
    (hrows : W.ownsRow 0 22 1 (.slice (some ⟨g8, 0, none⟩) (T.length + 1) c8) (T.length + 1) ((List.range T.length).map kv ++ [v6]))
    (hpar : W.ownsRow 0 3 1 (.slice (some ⟨g10, 0, none⟩) (T.length + 1) c10) (T.length + 1) ((T.map fun s => .int .i64 s.2) ++ [.int .i64 k]))
    (hv6 : Strs W v6 (ksOf T k ++ [z])) (f6 : ∀ q, v6.ownBlock = some q → w.heap.size ≤ q) (f8 : g8 = sb ∨ w.heap.size ≤ g8) (f10 : g10 = pb ∨ w.heap.size ≤ g10) :
    RefGrown X w W rb D F nm (T ++ [(ksOf T k ++ [z], (k : Int))]) := by
  have hlen : (T ++ [(ksOf T k ++ [z], (k : Int))]).length = T.length + 1 := by simp
  have hstr : ∀ {v : Value} {l : List ByteArray}, Strs w v l → Strs W v l := fun {v l} hs => ownsRow_of hs (fun g hg => hC.block g (hs.lt g hg).2 (by
    rintro (e | e | e)
    · exact blk_ne_row h.hd hs hg (by decide) e.symm
    · exact row_ne_row hs h.rows hg rfl (by decide) e
    · exact row_ne_row hs h.par hg rfl (by decide) e))
  have lt8 := (hrows.lt g8 rfl).2
  have lt10 := (hpar.lt g10 rfl).2
  refine ⟨fun b => X b ∨ w.heap.size ≤ b ∧ b < W.heap.size, ⟨nv, g8, c8, g10, c10, fun i => if i = T.length then v6 else kv i, ?_⟩, hC.mono (fun b _ e => by rcases e with rfl | rfl | rfl; exact h.ownR; exact h.ownS; exact h.ownP), fun b hb => hb.imp id And.left⟩
  exact {
    hd := by rw [hlen]; exact hhd
    nms := hstr h.nms
    rows := by
      rw [hlen, List.range_succ, List.map_append]
      have e : (List.range T.length).map (fun i => if i = T.length then v6 else kv i) = (List.range T.length).map kv := by
        apply List.map_congr_left
        intro i hi
        rw [if_neg (by have := List.mem_range.1 hi; omega)]
      rw [e]
      simpa using hrows
    keys := fun i hi => by
      rw [hlen] at hi
      by_cases e : i = T.length
      · subst e
        simp only [if_true]
        rw [show ksOf (T ++ [(ksOf T k ++ [z], (k : Int))]) T.length = ksOf T k ++ [z] by unfold ksOf; rw [getD_snoc]]
        exact hv6
      · have hi' : i < T.length := by omega
        simp only [if_neg e]
        rw [show ksOf (T ++ [(ksOf T k ++ [z], (k : Int))]) i = ksOf T i by unfold ksOf; rw [getD_append_left hi']]
        exact hstr (h.keys i hi')
    par := by rw [hlen, List.map_append]; exact hpar
    wf := hT'
    nm64 := h.nm64
    ownR := .inl h.ownR
    ownS := by rcases f8 with rfl | f; exact .inl h.ownS; exact .inr ⟨f, lt8⟩
    ownP := by rcases f10 with rfl | f; exact .inl h.ownP; exact .inr ⟨f, lt10⟩
    ownN := fun g hg => .inl (h.ownN g hg)
    ownK := fun i hi g hg => by
      rw [hlen] at hi
      by_cases e : i = T.length
      · subst e
        simp only [if_true] at hg
        exact .inr ⟨f6 g hg, (hv6.lt g hg).2⟩
      · simp only [if_neg e] at hg
        exact .inl (h.ownK i (by omega) g hg)
    lt := fun b hb => by rcases hb with hb | hb; exact Nat.lt_of_lt_of_le (h.lt b hb) hC.size; exact hb.2 }
theorem RefIn.sp (h : RefIn w X rb D F nm T nv sb sc pb pc kv) : sb ≠ pb := row_ne_row h.rows h.par rfl rfl (by decide)
end
section
variable {w : World} {X : Nat → Prop} {rb : Nat} {D F : Int} {nm : List ByteArray} {T : List Sh}
theorem addM_no {i : Int} {z : ByteArray} (h : i < 0 ∨ (T.length : Int) ≤ i) : addM D F T i z = ⟨0, false, T⟩ := by unfold addM; rw [if_pos h]
theorem addM_has {k : Nat} {z : ByteArray} (h : z ∈ ksOf T k) : addM D F T k z = ⟨0, false, T⟩ := by
  unfold addM
  split
  · rfl
  · dsimp only
    rw [if_pos (show z ∈ (T.getD (k : Int).toNat ([], 0)).1 by rw [Int.toNat_natCast]; exact h)]
theorem addM_kidAt {k j : Nat} {z : ByteArray} (hk : k < T.length) (hm : z ∉ ksOf T k) (h : kidFrom T 0 k z = some j) : addM D F T k z = ⟨j, true, T⟩ := by
  unfold addM
  rw [if_neg (by omega)]
  dsimp only
  rw [if_neg (show ¬ z ∈ (T.getD (k : Int).toNat ([], 0)).1 by rw [Int.toNat_natCast]; exact hm), h]
theorem addM_new {k : Nat} {z : ByteArray} (hk : k < T.length) (hm : z ∉ ksOf T k) (h : kidFrom T 0 k z = none) : addM D F T k z = if D ≤ (ksOf T k).length ∨ F ≤ kidCount T k ∨ 4096 ≤ T.length then ⟨0, false, T⟩ else ⟨T.length, true, T ++ [(ksOf T k ++ [z], (k : Int))]⟩ := by
  unfold addM
  rw [if_neg (by omega)]
  dsimp only
  rw [if_neg (show ¬ z ∈ (T.getD (k : Int).toNat ([], 0)).1 by rw [Int.toNat_natCast]; exact hm), h]
  dsimp only
  rw [Int.toNat_natCast]
set_option maxHeartbeats 4000000 in
set_option maxRecDepth 20000 in
theorem radd_calls (h : RefAt w X rb D F nm T) (i : Int) (z : ByteArray) : Calls Try.prog 36 #[.pointer (some ⟨rb, 0, none⟩), .int .i64 i, .string z] w fun e w' =>
    e = .returned (.tuple #[.int .i64 (addM D F T i z).r, .bool (addM D F T i z).ok]) ∧ RefGrown X w w' rb D F nm (addM D F T i z).T := by
  have HR := Lib.hid h
  obtain ⟨nv, sb, sc, pb, pc, kv, h⟩ := h
  have HI := Lib.hid (is_calls h i)
  by_cases hi : i < 0 ∨ (T.length : Int) ≤ i
  · rw [addM_no hi]
    rw [decide_eq_false ((not_in i T.length).2 hi)] at HI
    clear h hi
    go_enter Try.func36, Try.ntmps36
    go_wp2_with (go_at_call 106; (with_reducible refine HI.out.mono ?_); rintro e w' ⟨rfl, rfl⟩)
    go_ret2
    exact ⟨rfl, RefGrown.same HR.out⟩
  obtain ⟨k, rfl⟩ : ∃ k : Nat, i = k := ⟨i.toNat, by omega⟩
  have hk : k < T.length := by omega
  rw [decide_eq_true (by omega : (0 : Int) ≤ (k : Int) ∧ (k : Int) < T.length)] at HI
  have HS := Lib.hid (rslot_calls HR.out k z)
  have hsm : slotM T k z = slotOf (ksOf T k) z := by unfold slotM; rw [if_neg hi, Int.toNat_natCast]
  rw [hsm, slotOf_isSome] at HS
  clear hsm
  by_cases hm : z ∈ ksOf T k
  · rw [addM_has hm]
    rw [decide_eq_true hm] at HS
    clear h hi hm
    generalize (slotOf (ksOf T k) z).getD 0 = r at *
    go_enter Try.func36, Try.ntmps36
    go_wp2_with (first | (go_at_call 106; (with_reducible refine HI.out.mono ?_); rintro e w' ⟨rfl, rfl⟩) | (go_at_call 37; (with_reducible refine HS.out.mono ?_); rintro e w' ⟨rfl, rfl⟩))
    go_ret2
    exact ⟨rfl, RefGrown.same HR.out⟩
  rw [decide_eq_false hm] at HS
  have HM := Lib.hid hm
  generalize (slotOf (ksOf T k) z).getD 0 = r at *
  have H0 := Lib.hid h
  have c0 := h.hd.cell 0 _ rfl
  have c1 := h.hd.cell 1 _ rfl
  have c3 := h.hd.cell 3 _ rfl
  have c4 := h.hd.cell 4 _ rfl
  have cr := h.cell_row k hk
  have hrd := RdS.of_row (h.keys k hk)
  have h64 : (ksOf T k).length ≤ 64 := WF.keys_len h.wf hk
  have hN : T.length ≤ 4096 := h.wf.le
  have hpc : pc ≤ 9223372036854775807 ∧ T.length ≤ pc := by
    rcases h.par.2 with ⟨q, _⟩ | ⟨g, c, cur, q, q1, q2, q3, q4, _⟩
    · cases q
    · cases q; exact ⟨q4, q3⟩
  have hscc : sc ≤ 9223372036854775807 ∧ T.length ≤ sc := by
    rcases h.rows.2 with ⟨q, _⟩ | ⟨g, c, cur, q, q1, q2, q3, q4, _⟩
    · cases q
    · cases q; exact ⟨q4, q3⟩
  obtain ⟨hpc1, hpc2⟩ := hpc
  obtain ⟨hsc1, hsc2⟩ := hscc
  obtain ⟨a, c, ekv, q1, q2, _⟩ := hrd
  have EKV := Lib.hid ekv
  rw [ekv] at cr
  obtain ⟨n, hn⟩ : ∃ n, n = (ksOf T k).length := ⟨_, rfl⟩
  have En := Lib.hid hn
  rw [← hn] at q1 h64 cr
  have q2' : c ≤ 9223372036854775807 := q2
  obtain ⟨N, hNN⟩ : ∃ N, N = T.length := ⟨_, rfl⟩
  have EN := Lib.hid hNN
  have HK := Lib.hid hk
  rw [← hNN] at hN hpc2 hsc2 c3 c4 hk
  clear h hi hm hn q2 ekv hNN
  have hk0 : (0 : Int) ≤ (k : Int) := by omega
  have hk1 : (k : Int) < (N : Int) := by omega
  go_enter Try.func36, Try.ntmps36
  go_wp2_with (first | (go_at_call 106; (with_reducible refine HI.out.mono ?_); rintro e w' ⟨rfl, rfl⟩) | (go_at_call 37; (with_reducible refine HS.out.mono ?_); rintro e w' ⟨rfl, rfl⟩))
  go_loop [11, 39] (fun cv iv => ∃ (j c : Nat), j ≤ N ∧ c ≤ j ∧ iv = .int .i64 j ∧ cv = .int .i64 c ∧ Hid (c = kidCount (T.take j) k ∧ kidFrom (T.take j) 0 k z = none)) (fun _ iv => N - (intOf iv).toNat)
  case atStart => exact ⟨0, 0, Nat.zero_le _, Nat.le_refl _, rfl, rfl, Lib.hid ⟨by simp [kidCount], by simp [kidFrom]⟩⟩
  case round =>
    obtain ⟨j, cc, hj, hcj, rfl, rfl, hA⟩ := hrel
    by_cases hlt : j < N
    · have hjl : j < T.length := by rw [← EN.out]; exact hlt
      have hcell := H0.out.cell_par j hjl
      by_cases hp : T[j].2 = k
      · have hgd : T.getD j ([], 0) = T[j] := by simp [List.getD_eq_getElem?_getD, List.getElem?_eq_getElem hjl]
        obtain ⟨y, hy1, hy2⟩ := H0.out.wf.path j hjl k (by rw [hgd]; exact hp)
        have hks : ksOf T j = ksOf T k ++ [y] := hy2
        have hrow := H0.out.cell_row j hjl
        obtain ⟨a2, c2, e2, p1, p2, hce⟩ := RdS.of_row (H0.out.keys j hjl)
        have hlen : (ksOf T j).length = n + 1 := by rw [hks, List.length_append, ← En.out]; rfl
        rw [hlen] at e2 p1
        rw [e2] at hrow
        obtain ⟨b, off, rfl, hcy⟩ := hce n y (by rw [hks, En.out]; simp)
        have p2' : c2 ≤ 9223372036854775807 := p2
        have hlast : T[j].1.getLast? = some y := by rw [← hgd]; show (ksOf T j).getLast? = some y; rw [hks]; simp
        rw [hp] at hcell
        have HC1 : Hid (kidCount (T.take (j + 1)) k = kidCount (T.take j) k + 1) := Lib.hid (by rw [kidCount_on hjl, if_pos hp])
        by_cases hyz : y = z
        · subst hyz
          have HF := Lib.hid (addM_kidAt (D := D) (F := F) HK.out HM.out (kidFrom_here hjl hA.out.2 hp hlast))
          clear hp hgd hy1 hy2 hks hce hlen hlast p2 e2
          go_wp2
          go_ret2
          exact ⟨by rw [HF.out]; rfl, by rw [HF.out]; exact RefGrown.same HR.out⟩
        · have hs' := str_ne _ _ hyz
          have HF := Lib.hid (kidFrom_on hjl hA.out.2 (fun h => hyz (by rw [hlast] at h; exact Option.some.inj h.2)))
          clear hp hgd hy1 hy2 hks hce hlen hlast p2 e2 hyz
          go_wp2
          go_round
          case rel => exact ⟨j + 1, cc + 1, by omega, by omega, by go_num, by go_num, Lib.hid ⟨by rw [HC1.out, hA.out.1], HF.out⟩⟩
          case measure => simp [intOf]; omega
      · have HF := Lib.hid (kidFrom_on (z := z) hjl hA.out.2 (fun h => hp h.1))
        have HC1 : Hid (kidCount (T.take (j + 1)) k = kidCount (T.take j) k) := Lib.hid (by rw [kidCount_on hjl, if_neg hp]; rfl)
        generalize T[j].2 = x at *
        go_wp2
        go_round
        case rel => exact ⟨j + 1, cc, by omega, by omega, by go_num, rfl, Lib.hid ⟨by rw [HC1.out, hA.out.1], HF.out⟩⟩
        case measure => simp [intOf]; omega
    · obtain rfl : j = N := by omega
      have htk : T.take j = T := List.take_of_length_le (by rw [← EN.out]; exact Nat.le_refl _)
      have hA' := hA.out
      rw [htk] at hA'
      have HCC := Lib.hid hA'.1
      have HKN := Lib.hid hA'.2
      have HAD := Lib.hid (addM_new (D := D) (F := F) HK.out HM.out hA'.2)
      rw [← HCC.out, ← En.out, ← EN.out] at HAD
      clear htk hA hA'
      by_cases hDD : D ≤ (n : Int)
      · have HE := Lib.hid (HAD.out.trans (if_pos (.inl hDD)))
        go_wp2
        go_ret2
        exact ⟨by rw [HE.out]; rfl, by rw [HE.out]; exact RefGrown.same HR.out⟩
      have hDD' : decide (D ≤ (n : Int)) = false := decide_eq_false hDD
      by_cases hFF : F ≤ (cc : Int)
      · have HE := Lib.hid (HAD.out.trans (if_pos (.inr (.inl hFF))))
        clear hDD
        go_wp2
        go_ret2
        exact ⟨by rw [HE.out]; rfl, by rw [HE.out]; exact RefGrown.same HR.out⟩
      have hFF' : decide (F ≤ (cc : Int)) = false := decide_eq_false hFF
      by_cases hNN : 4096 ≤ j
      · have HE := Lib.hid (HAD.out.trans (if_pos (.inr (.inr hNN))))
        have hNN' : (4096 : Int) ≤ (j : Int) := by omega
        clear hDD hFF
        go_wp2
        go_ret2
        exact ⟨by rw [HE.out]; rfl, by rw [HE.out]; exact RefGrown.same HR.out⟩
      have hNN' : decide ((4096 : Int) ≤ (j : Int)) = false := decide_eq_false (by omega)
      have HE := Lib.hid (HAD.out.trans (if_neg (by omega)))
      have HDN := Lib.hid hDD
      clear hDD hFF HAD
      go_upto_region 18 with (fail)
      have hwf' := (H0.out.wf.add (fan := F) (k : Int) z)
      rw [HE.out] at hwf'
      have HWF := Lib.hid hwf'
      clear hwf'
      have hB0 : Below w.heap.size w ({ w with drawn := w.drawn + 1 } : World) := ⟨rfl, rfl, rfl, Nat.le_refl _, fun _ _ => rfl⟩
      have ltr := H0.out.hd.lt
      have hne := H0.out.ne_s
      have ltsb : sb < w.heap.size := (H0.out.rows.lt sb rfl).2
      have RK : Hid (RdS w (.slice a n c) (ksOf T k)) := Lib.hid (by have := RdS.of_row (H0.out.keys k HK.out); rwa [EKV.out, ← En.out] at this)
      have toS : ∀ W, Below w.heap.size w W → SA w sb k (.slice a n c) W := fun W hW => ⟨Chg.ofBelow hW, (hW.cell ltsb).trans cr⟩
      have q3 : ∀ W, SA w sb k (.slice a n c) W → W.cell? ⟨rb, 3, none⟩ = some (.slice (some ⟨sb, 0, none⟩) j sc) := fun W hW => (World.cell?_of_block (hW.chg.block rb ltr hne)).trans c3
      have qk : ∀ W, SA w sb k (.slice a n c) W → W.cell? ⟨sb, k, none⟩ = some (.slice a n c) := fun W hW => hW.row
      have hS0 := toS _ hB0
      refine RG.region_F (SA w sb k (.slice a n c)) 21 (by kernel_rfl) ?_
      generalize ({ w with drawn := w.drawn + 1 } : World) = w1 at hS0 hB0 ⊢
      clear c0 c1 c3 c4 cr
      refine RG.takeF 0 (oi := ⟨some 85, _, _, _, _, _⟩) (v := ?_) rfl (by kernel_rfl) (by kernel_rfl) (by kernel_rfl) (by kernel_rfl) (fun _ _ _ h => h) (Or.inl ⟨by rfl, ?hy0⟩) hS0 ?rest0
      case hy0 => (intro W hW; (try dsimp only at hW); go_simp; try with_reducible rfl)
      simp only [Act.put, List.setIfInBounds_toArray, List.set_cons_zero, List.set_cons_succ]
      refine RG.takeF 1 (oi := ⟨some 86, _, _, _, _, _⟩) (v := ?_) rfl (by kernel_rfl) (by kernel_rfl) (by kernel_rfl) (by kernel_rfl) (fun _ _ _ h => h) (Or.inl ⟨by rfl, ?hy1⟩) hS0 ?rest1
      case hy1 => (intro W hW; (try dsimp only at hW); go_simp; try with_reducible rfl)
      simp only [Act.put, List.setIfInBounds_toArray, List.set_cons_zero, List.set_cons_succ]
      refine RG.takeF 2 (oi := ⟨some 87, _, _, _, _, _⟩) (v := ?_) rfl (by kernel_rfl) (by kernel_rfl) (by kernel_rfl) (by kernel_rfl) (fun _ _ _ h => h) (Or.inl ⟨by rfl, ?hy2⟩) hS0 ?rest2
      case hy2 => (intro W hW; (try dsimp only at hW); go_simp; try with_reducible rfl)
      simp only [Act.put, List.setIfInBounds_toArray, List.set_cons_zero, List.set_cons_succ]
      refine RG.takeF 3 (oi := ⟨some 88, _, _, _, _, _⟩) (v := ?_) rfl (by kernel_rfl) (by kernel_rfl) (by kernel_rfl) (by kernel_rfl) (fun _ _ _ h => h) (Or.inl ⟨by rfl, ?hy3⟩) hS0 ?rest3
      case hy3 => (intro W hW; (try dsimp only at hW); go_simp; try with_reducible rfl)
      simp only [Act.put, List.setIfInBounds_toArray, List.set_cons_zero, List.set_cons_succ]
      refine RG.takeF 4 (oi := ⟨some 89, _, _, _, _, _⟩) (v := ?_) rfl (by kernel_rfl) (by kernel_rfl) (by kernel_rfl) (by kernel_rfl) (fun _ _ _ h => h) (Or.inl ⟨by rfl, ?hy4⟩) hS0 ?rest4
      case hy4 => (intro W hW; (try dsimp only at hW); go_simp; try with_reducible rfl)
      simp only [Act.put, List.setIfInBounds_toArray, List.set_cons_zero, List.set_cons_succ]
      refine RG.takeF 6 (oi := ⟨some 91, _, _, _, _, _⟩) (v := ?_) rfl (by kernel_rfl) (by kernel_rfl) (by kernel_rfl) (by kernel_rfl) (fun _ _ _ h => h) (Or.inl ⟨by rfl, ?hy6⟩) hS0 ?rest6
      case hy6 => (intro W hW; (try dsimp only at hW); go_simp; try with_reducible rfl)
      simp only [Act.put, List.setIfInBounds_toArray, List.set_cons_zero, List.set_cons_succ]
      refine RG.takeF 7 (oi := ⟨some 92, _, _, _, _, _⟩) (v := ?_) rfl (by kernel_rfl) (by kernel_rfl) (by kernel_rfl) (by kernel_rfl) (fun _ _ _ h => h) (Or.inl ⟨by rfl, ?hy7⟩) hS0 ?rest7
      case hy7 => (intro W hW; (try dsimp only at hW); go_simp; try with_reducible rfl)
      simp only [Act.put, List.setIfInBounds_toArray, List.set_cons_zero, List.set_cons_succ]
      refine RG.takeF 8 (oi := ⟨some 93, _, _, _, _, _⟩) (v := ?_) rfl (by kernel_rfl) (by kernel_rfl) (by kernel_rfl) (by kernel_rfl) (fun _ _ _ h => h) (Or.inl ⟨by rfl, ?hy8⟩) hS0 ?rest8
      case hy8 => (intro W hW; (try dsimp only at hW); go_simp; try with_reducible rfl)
      simp only [Act.put, List.setIfInBounds_toArray, List.set_cons_zero, List.set_cons_succ]
      refine RG.takeF 9 (oi := ⟨some 94, _, _, _, _, _⟩) (v := ?_) rfl (by kernel_rfl) (by kernel_rfl) (by kernel_rfl) (by kernel_rfl) (fun _ _ _ h => h) (Or.inl ⟨by rfl, ?hy9⟩) hS0 ?rest9
      case hy9 => (intro W hW; (try dsimp only at hW); go_simp; try with_reducible rfl)
      simp only [Act.put, List.setIfInBounds_toArray, List.set_cons_zero, List.set_cons_succ]
      refine RG.takeF 10 (oi := ⟨some 95, _, _, _, _, _⟩) (v := ?_) rfl (by kernel_rfl) (by kernel_rfl) (by kernel_rfl) (by kernel_rfl) (fun _ _ _ h => h) (Or.inl ⟨by rfl, ?hy10⟩) hS0 ?rest10
      case hy10 => (intro W hW; (try dsimp only at hW); go_simp; try with_reducible rfl)
      simp only [Act.put, List.setIfInBounds_toArray, List.set_cons_zero, List.set_cons_succ]
      refine RG.takeF 11 (oi := ⟨some 96, _, _, _, _, _⟩) (v := ?_) rfl (by kernel_rfl) (by kernel_rfl) (by kernel_rfl) (by kernel_rfl) (fun _ _ _ h => h) (Or.inl ⟨by rfl, ?hy11⟩) hS0 ?rest11
      case hy11 => (intro W hW; (try dsimp only at hW); go_simp; try with_reducible rfl)
      simp only [Act.put, List.setIfInBounds_toArray, List.set_cons_zero, List.set_cons_succ]
      refine RG.takeF 12 (oi := ⟨some 97, _, _, _, _, _⟩) (v := ?_) rfl (by kernel_rfl) (by kernel_rfl) (by kernel_rfl) (by kernel_rfl) (fun _ _ _ h => h) (Or.inl ⟨by rfl, ?hy12⟩) hS0 ?rest12
      case hy12 => (intro W hW; (try dsimp only at hW); go_simp; try with_reducible rfl)
      simp only [Act.put, List.setIfInBounds_toArray, List.set_cons_zero, List.set_cons_succ]
      refine RG.takeF 14 (oi := ⟨some 99, _, _, _, _, _⟩) (v := ?_) rfl (by kernel_rfl) (by kernel_rfl) (by kernel_rfl) (by kernel_rfl) (fun _ _ _ h => h) (Or.inl ⟨by rfl, ?hy14⟩) hS0 ?rest14
      case hy14 => (intro W hW; (try dsimp only at hW); go_simp; try with_reducible rfl)
      simp only [Act.put, List.setIfInBounds_toArray, List.set_cons_zero, List.set_cons_succ]
      refine RG.twoF 5 15 (by kernel_rfl) (by decide) (by decide) ?ba ?bb
      case' ba =>
        refine RG.wpOp_plain rfl rfl fun K hK => ?_
        go_simp
        have hB2 : Below w.heap.size w (w1.alloc (.cells #[] 9)) := hB0.alloc hB0.size _
        refine hK _ _ ⟨toS _ hB2, ?_⟩
        clear hK K
        try simp only [Act.put, List.setIfInBounds_toArray, List.set_cons_zero, List.set_cons_succ]
        have o2 : (w1.alloc (.cells #[] 9)).ownsRow w.heap.size 9 1 (.slice (some ⟨w1.heap.size, 0, none⟩) 0 0) 0 [] := World.ownsRow_made w1 #[] 0 hB0.size (Nat.zero_le _) rfl
        refine RG.twoF 13 15 (by kernel_rfl) (by decide) (by decide) ?bc ?bd
      case' bc =>
        obtain ⟨v98, w4, r4, o4, g4, l4⟩ := run_append_strs (w1.alloc (.cells #[] 9)) w.heap.size (.slice (some ⟨w1.heap.size, 0, none⟩) 0 0) (.slice a n c) 0 [] (ksOf T k) o2 (RK.out.below hB2 (Nat.le_refl _)) (by omega) (by rw [← En.out]; omega) hB2.size
        refine RG.wpOp_plain rfl rfl fun K hK => ?_
        refine RG.wp_append_run _ _ 22 22 rfl rfl rfl r4 ?_
        have hB4 : Below w.heap.size w w4 := hB2.grown g4 hB2.size (fun q hq => (o2.lt q hq).1)
        refine hK _ _ ⟨toS _ hB4, ?_⟩
        clear hK K
        try simp only [Act.put, List.setIfInBounds_toArray, List.set_cons_zero, List.set_cons_succ]
        refine RG.oneF 15 (by kernel_rfl) (by decide) ?_
        refine RG.wpOp_plain rfl rfl fun K hK => ?_
        go_simp
        have hB5 : Below w.heap.size w (w4.alloc (.cells #[.string z] 9)) := hB4.alloc hB4.size _
        refine hK _ _ ⟨toS _ hB5, ?_⟩
        clear hK K
        try simp only [Act.put, List.setIfInBounds_toArray, List.set_cons_zero, List.set_cons_succ]
        rw [Nat.zero_add, List.nil_append] at o4
        have o98 := o4.alloc (.cells #[.string z] 9)
        have h100 := Blk.new w4 [.string z] 9
        generalize hw5 : w4.alloc (.cells #[.string z] 9) = w5 at *
        generalize hb100 : w4.heap.size = b100 at *
        clear hw5 hb100 g4 l4 r4 o4 hB4 hB2 o2
      case' bd =>
        refine RG.wpOp_plain rfl rfl fun K hK => ?_
        go_simp
        have hB3 : Below w.heap.size w ((w1.alloc (.cells #[] 9)).alloc (.cells #[.string z] 9)) := hB2.alloc hB2.size _
        refine hK _ _ ⟨toS _ hB3, ?_⟩
        clear hK K
        try simp only [Act.put, List.setIfInBounds_toArray, List.set_cons_zero, List.set_cons_succ]
        have o3 := o2.alloc (.cells #[.string z] 9)
        have h3 := Blk.new (w1.alloc (.cells #[] 9)) [.string z] 9
        obtain ⟨v98, w5, r4, o98, g4, l4⟩ := run_append_strs ((w1.alloc (.cells #[] 9)).alloc (.cells #[.string z] 9)) w.heap.size (.slice (some ⟨w1.heap.size, 0, none⟩) 0 0) (.slice a n c) 0 [] (ksOf T k) o3 (RK.out.below hB3 (Nat.le_refl _)) (by omega) (by rw [← En.out]; omega) hB3.size
        refine RG.oneF 13 (by kernel_rfl) (by decide) ?_
        refine RG.wpOp_plain rfl rfl fun K hK => ?_
        refine RG.wp_append_run _ _ 22 22 rfl rfl rfl r4 ?_
        have hB5 : Below w.heap.size w w5 := hB3.grown g4 hB3.size (fun q hq => (o3.lt q hq).1)
        refine hK _ _ ⟨toS _ hB5, ?_⟩
        clear hK K
        try simp only [Act.put, List.setIfInBounds_toArray, List.set_cons_zero, List.set_cons_succ]
        rw [Nat.zero_add, List.nil_append] at o98
        have h100 := h3.of (g4.block _ h3.lt (fun e => by simp [Value.ownBlock] at e))
        have hb1 : (w1.alloc (.cells #[] 9)).heap.size = w1.heap.size + 1 := by simp
        rw [hb1] at h100
        generalize hb100 : w1.heap.size + 1 = b100 at *
        clear hb1 hb100 g4 l4 r4 o3 hB3 hB2 o2 h3
      case' bb =>
        refine RG.wpOp_plain rfl rfl fun K hK => ?_
        go_simp
        have hB2 : Below w.heap.size w (w1.alloc (.cells #[.string z] 9)) := hB0.alloc hB0.size _
        refine hK _ _ ⟨toS _ hB2, ?_⟩
        clear hK K
        try simp only [Act.put, List.setIfInBounds_toArray, List.set_cons_zero, List.set_cons_succ]
        have h2 := Blk.new w1 [.string z] 9
        refine RG.oneF 5 (by kernel_rfl) (by decide) ?_
        refine RG.wpOp_plain rfl rfl fun K hK => ?_
        go_simp
        have hB3 : Below w.heap.size w ((w1.alloc (.cells #[.string z] 9)).alloc (.cells #[] 9)) := hB2.alloc hB2.size _
        refine hK _ _ ⟨toS _ hB3, ?_⟩
        clear hK K
        try simp only [Act.put, List.setIfInBounds_toArray, List.set_cons_zero, List.set_cons_succ]
        have o3 : ((w1.alloc (.cells #[.string z] 9)).alloc (.cells #[] 9)).ownsRow w.heap.size 9 1 (.slice (some ⟨w1.heap.size + 1, 0, none⟩) 0 0) 0 [] := by
          have := World.ownsRow_made (e := 9) (size := 1) (w1.alloc (.cells #[.string z] 9)) #[] 0 hB2.size (Nat.zero_le _) rfl
          simpa using this
        have h3 := h2.alloc (.cells #[] 9)
        obtain ⟨v98, w5, r4, o98, g4, l4⟩ := run_append_strs ((w1.alloc (.cells #[.string z] 9)).alloc (.cells #[] 9)) w.heap.size (.slice (some ⟨w1.heap.size + 1, 0, none⟩) 0 0) (.slice a n c) 0 [] (ksOf T k) o3 (RK.out.below hB3 (Nat.le_refl _)) (by omega) (by rw [← En.out]; omega) hB3.size
        refine RG.oneF 13 (by kernel_rfl) (by decide) ?_
        refine RG.wpOp_plain rfl rfl fun K hK => ?_
        refine RG.wp_append_run _ _ 22 22 rfl rfl rfl r4 ?_
        have hB5 : Below w.heap.size w w5 := hB3.grown g4 hB3.size (fun q hq => (o3.lt q hq).1)
        refine hK _ _ ⟨toS _ hB5, ?_⟩
        clear hK K
        try simp only [Act.put, List.setIfInBounds_toArray, List.set_cons_zero, List.set_cons_succ]
        rw [Nat.zero_add, List.nil_append] at o98
        have h100 := h3.of (g4.block _ h3.lt (fun e => by simp [Value.ownBlock] at e))
        generalize hb100 : w1.heap.size = b100 at *
        clear hb100 g4 l4 r4 o3 hB3 hB2 h2 h3
      all_goals
        have hml : maxLen = 9223372036854775807 := rfl
        obtain ⟨i0, hi0, hz0, hz1, hz2⟩ := info_parts info9
        obtain ⟨v6, w6, r6, o6, g6, _, l6⟩ := run_append_own_at (P := Try.prog) w5 w.heap.size 22 22 9 i0 (.string ByteArray.empty) 1 16 Try.underlying22 hi0 hz0 hz1 hz2 rfl (by decide) v98 _ _ o98 ⟨b100, 0, none⟩ 1 1 [.string z] rfl (fun j u hu => by rw [addr0]; exact h100.cell j u hu) (by simp [Value.oneCell']) (by rw [← En.out]; omega) (by rw [← En.out]; omega) hB5.size
        refine RG.oneF 16 (by kernel_rfl) (by decide) ?_
        refine RG.wpOp_plain rfl rfl fun K hK => ?_
        refine RG.wp_append_run _ _ 22 22 rfl rfl rfl r6 ?_
        have hB6 : Below w.heap.size w w6 := hB5.grown g6 hB5.size (fun q hq => (o98.lt q hq).1)
        refine hK _ _ ⟨toS _ hB6, ?_⟩
        clear hK K
        try simp only [Act.put, List.setIfInBounds_toArray, List.set_cons_zero, List.set_cons_succ]
        obtain ⟨a6, c6, e6⟩ := ownsRow_form o6
        rw [← En.out] at e6
        subst e6
        refine RG.oneF 17 (by kernel_rfl) (by decide) ?_
        refine RG.wpOp_plain rfl rfl fun K hK => ?_
        go_simp
        have hB7 : Below w.heap.size w (w6.alloc (.cells #[.slice a6 (n + 1) c6] 22)) := hB6.alloc hB6.size _
        refine hK _ _ ⟨toS _ hB7, ?_⟩
        clear hK K
        try simp only [Act.put, List.setIfInBounds_toArray, List.set_cons_zero, List.set_cons_succ]
        have o7 := o6.alloc (.cells #[.slice a6 (n + 1) c6] 22)
        have h102 := Blk.new w6 [.slice a6 (n + 1) c6] 22
        obtain ⟨j0, hj0, jz0, jz1, jz2⟩ := info_parts info22
        have os := ownsRow_of H0.out.rows (fun g hg => by cases hg; exact hB7.block sb ltsb)
        rw [← EN.out] at os
        obtain ⟨v8, w8, r8, o8, g8, l8, k8⟩ := run_append_keep (P := Try.prog) (w6.alloc (.cells #[.slice a6 (n + 1) c6] 22)) 0 35 35 22 j0 (.slice none 0 0) 1 24 Try.underlying35 hj0 jz0 jz1 jz2 rfl (by decide) sb sc j _ os ⟨w6.heap.size, 0, none⟩ 1 1 [.slice a6 (n + 1) c6] rfl (fun j u hu => by rw [addr0]; exact h102.cell j u hu) (by simp [Value.oneCell']) (by omega) (by omega) (Nat.zero_le _)
        refine RG.oneF 18 (by kernel_rfl) (by decide) ?_
        refine RG.wpOp_plain rfl rfl fun K hK => ?_
        refine RG.wp_append_run _ _ 35 35 rfl rfl rfl r8 ?_
        have hC8 : Chg (fun b => b = sb) w w8 := (Chg.ofBelow hB7).grown g8 (fun q hq _ => (Option.some.inj hq).symm)
        have hS8 : SA w sb k (.slice a n c) w8 := ⟨hC8, k8 k _ (by have := EKV.out; rw [← En.out] at this; simp [hk, this])⟩
        refine hK _ _ ⟨hS8, ?_⟩
        clear hK K
        try simp only [Act.put, List.setIfInBounds_toArray, List.set_cons_zero, List.set_cons_succ]
        obtain ⟨gs8, cs8, e8, _, _⟩ := o8.form (by omega)
        subst e8
        refine RG.oneF 19 (by kernel_rfl) (by decide) ?_
        refine RG.wpOp_plain rfl rfl fun K hK => ?_
        go_simp
        refine hK _ _ ⟨hS8, ?_⟩
        clear hK K
        try simp only [Act.put, List.setIfInBounds_toArray, List.set_cons_zero, List.set_cons_succ]
        refine RG.oneF 20 (by kernel_rfl) (by decide) ?_
        refine RG.wpOp_plain rfl rfl fun K hK => ?_
        go_simp
        refine hK _ _ ⟨hS8, ?_⟩
        clear hK K
        try simp only [Act.put, List.setIfInBounds_toArray, List.set_cons_zero, List.set_cons_succ]
        have hd8 := H0.out.hd.of (hC8.block rb ltr hne)
        rw [← EN.out] at hd8
        have x3 := hd8.cell 3 _ rfl
        have f3 := hd8.frozen 3
        refine RG.lastF (by kernel_rfl) (by kernel_rfl) ?_
        refine RG.wpOp_plain rfl rfl fun K hK => ?_
        go_simp
        refine hK _ _ ?_
        clear hK K
        have hd9 := hd8.setSame 3 (.slice (some ⟨gs8, 0, none⟩) (j + 1) cs8)
        have hC9 : Chg (fun b => b = rb ∨ b = sb ∨ b = pb) w (w8.setCell ⟨rb, 3, none⟩ (.slice (some ⟨gs8, 0, none⟩) (j + 1) cs8)) := (hC8.mono (C := fun b => b = rb ∨ b = sb ∨ b = pb) (fun b _ e => .inr (.inl e))).setCell (fun _ => .inl rfl) _
        have hrne : gs8 ≠ rb := fun e => blk_ne_row hd8 o8 rfl (by decide) e.symm
        have o9 := ownsRow_of (w' := w8.setCell ⟨rb, 3, none⟩ (.slice (some ⟨gs8, 0, none⟩) (j + 1) cs8)) o8 (fun g hg => by cases hg; exact Below.heap_setCell _ _ _ _ hrne)
        have s7 := ownsRow_of (w' := w8) o7 (fun g hg => g8.block g (o7.lt g hg).2 (fun e => by have h1 := (o7.lt g hg).1; have h2 := Option.some.inj e; omega))
        have s9 := ownsRow_of (w' := w8.setCell ⟨rb, 3, none⟩ (.slice (some ⟨gs8, 0, none⟩) (j + 1) cs8)) s7 (fun g hg => Below.heap_setCell _ _ _ _ (fun e => by have h1 := (s7.lt g hg).1; have h2 : g = rb := e; omega))
        have ltp : pb < w.heap.size := (H0.out.par.lt pb rfl).2
        have hnp := H0.out.ne_p
        have p9 := ownsRow_of (w' := w8.setCell ⟨rb, 3, none⟩ (.slice (some ⟨gs8, 0, none⟩) (j + 1) cs8)) H0.out.par (fun g hg => by cases hg; exact (Below.heap_setCell _ _ _ _ (fun e => hnp e.symm)).trans (hC8.block pb ltp (fun e => H0.out.sp e.symm)))
        rw [← EN.out] at p9
        have hb8 : gs8 = sb ∨ w.heap.size ≤ gs8 := by
          rcases l8 with h | h
          · exact .inl (Option.some.inj h)
          · have h2 : gs8 = _ := Option.some.inj h
            exact .inr (by rw [h2]; exact hB7.size)
        have hsz9 : w.heap.size ≤ (w8.setCell ⟨rb, 3, none⟩ (.slice (some ⟨gs8, 0, none⟩) (j + 1) cs8)).heap.size := hC9.size
        clear q3 qk toS hS0 hB0 RK hB5 o98 h100 r6 o6 g6 l6 hB6 hB7 h102 os r8 o8 g8 l8 k8 hC8 hS8 x3 f3 s7 o7
        generalize w8.setCell ⟨rb, 3, none⟩ (.slice (some ⟨gs8, 0, none⟩) (j + 1) cs8) = w9 at *
        have y4 := hd9.cell 4 _ rfl
        go_upto_region 19 with (fail)
        have hA := hd9.alloc (.cells #[.int .i64 (k : Int)] 3)
        have pA := p9.alloc (.cells #[.int .i64 (k : Int)] 3)
        have nA := Blk.new w9 [.int .i64 (k : Int)] 3
        have oA := o9.alloc (.cells #[.int .i64 (k : Int)] 3)
        have sA := s9.alloc (.cells #[.int .i64 (k : Int)] 3)
        have hCA := hC9.alloc (.cells #[.int .i64 (k : Int)] 3)
        obtain ⟨i3, hi3, iz0, iz1, iz2⟩ := info_parts info3
        obtain ⟨v10, w10, r10, o10, g10, l10, _⟩ := run_append_keep (P := Try.prog) (w9.alloc (.cells #[.int .i64 (k : Int)] 3)) 0 46 46 3 i3 (.int .i64 0) 1 8 Try.underlying46 hi3 iz0 iz1 iz2 rfl (by decide) pb pc j _ pA ⟨w9.heap.size, 0, none⟩ 1 1 [.int .i64 (k : Int)] rfl (fun j u hu => by rw [addr0]; exact nA.cell j u hu) (by simp [Value.oneCell']) (by omega) (by omega) (Nat.zero_le _)
        have hC10 := hCA.grown g10 (fun q hq _ => .inr (.inr (Option.some.inj hq).symm))
        have hd10 := hA.of (g10.block rb hA.lt (fun e => hnp (Option.some.inj e)))
        have oB := ownsRow_of oA (fun g hg => g10.block g (oA.lt g hg).2 (fun e => row_ne_row oA pA hg rfl (by decide) (Option.some.inj e)))
        have sB := ownsRow_of sA (fun g hg => g10.block g (sA.lt g hg).2 (fun e => row_ne_row sA pA hg rfl (by decide) (Option.some.inj e)))
        obtain ⟨gp, cp, e10, _, _⟩ := o10.form (by omega)
        subst e10
        have hbp : gp = pb ∨ w.heap.size ≤ gp := by
          rcases l10 with h | h
          · exact .inl (Option.some.inj h)
          · have h2 : gp = _ := Option.some.inj h
            exact .inr (by rw [h2]; exact hCA.size)
        have hrnp : gp ≠ rb := fun e => blk_ne_row hd10 o10 rfl (by decide) e.symm
        have hrns : gs8 ≠ rb := hrne
        have z4 := hd10.cell 4 _ rfl
        have f4 := hd10.frozen 4
        have hd11 := hd10.setSame 4 (.slice (some ⟨gp, 0, none⟩) (j + 1) cp)
        have z3 := hd11.cell 3 _ rfl
        have hC11 := hC10.setCell (a := ⟨rb, 4, none⟩) (fun _ => .inl rfl) (.slice (some ⟨gp, 0, none⟩) (j + 1) cp)
        have o11 := ownsRow_of (w' := w10.setCell ⟨rb, 4, none⟩ (.slice (some ⟨gp, 0, none⟩) (j + 1) cp)) oB (fun g hg => by cases hg; exact Below.heap_setCell _ _ _ _ hrns)
        have p11 := ownsRow_of (w' := w10.setCell ⟨rb, 4, none⟩ (.slice (some ⟨gp, 0, none⟩) (j + 1) cp)) o10 (fun g hg => by cases hg; exact Below.heap_setCell _ _ _ _ hrnp)
        have s11 := ownsRow_of (w' := w10.setCell ⟨rb, 4, none⟩ (.slice (some ⟨gp, 0, none⟩) (j + 1) cp)) sB (fun g hg => Below.heap_setCell _ _ _ _ (fun e => blk_ne_row hd10 sB hg (by decide) e.symm))
        have R10 := Lib.hid r10
        have G : Hid (RefGrown X w (w10.setCell ⟨rb, 4, none⟩ (.slice (some ⟨gp, 0, none⟩) (j + 1) cp)) rb D F nm (T ++ [(ksOf T k ++ [z], (k : Int))])) := Lib.hid (by
          have ej := EN.out
          subst ej
          exact RefIn.grow H0.out k HK.out z HWF.out _ gs8 cs8 gp cp (.slice a6 (n + 1) c6) hC11 hd11 o11 p11 (by have h := s11.mono (Nat.zero_le _); show World.ownsRow _ 0 9 1 _ (ksOf T k ++ [z]).length ((ksOf T k ++ [z]).map .string); rw [List.length_append, List.map_append]; exact h) (fun q hq => (s11.lt q hq).1) hb8 hbp)
        clear hA pA nA oA sA hCA r10 o10 g10 l10 hC10 oB sB hbp hrnp hrns hd11 hC11 o11 p11 s11 hd9 hC9 hrne o9 s9 ltp hnp p9 hb8 hsz9 hd10
        go_upto_region 20 with (first | (at_builtin; refine RG.wpList_append_run (v := .slice (some ⟨pb, 0, none⟩) j pc) (v2 := .slice (some ⟨w9.heap.size, 0, none⟩) 1 1) rfl _ _ 46 46 rfl rfl rfl R10.out ?_; try simp only [Act.put, List.setIfInBounds_toArray, List.set_cons_zero, List.set_cons_succ]))
        go_wp2
        go_ret2
        refine ⟨?_, by rw [HE.out]; exact G.out⟩
        rw [HE.out]
        rfl

end
end Go.Proofs.Ytmjfmfelbmbniaa
