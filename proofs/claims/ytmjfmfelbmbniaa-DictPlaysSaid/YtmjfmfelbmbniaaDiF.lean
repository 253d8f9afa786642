/- Layer 13: a dictionary as it lies in memory; finding a key's place. -/
import Derived.Test.YtmjfmfelbmbniaaDiM
import Derived.Test.YtmjfmfelbmbniaaShU
namespace Go.Proofs.Ytmjfmfelbmbniaa
open Go.RowKit Go.Maps HK ShM
set_option linter.unusedVariables false
set_option linter.unusedSimpArgs false
def Ent.cells : Ent → List Value
  | none => [.int .i64 0, .int .i64 0, .string Val.e, .int .i64 0, .int .i64 0, .string Val.e, .bool false]
  | some (k, v) => [.int .i64 k.k, .int .i64 k.n, .string k.s, .int .i64 v.k, .int .i64 v.n, .string v.s, .bool true]
def flatE (es : List Ent) : List Value := es.flatMap Ent.cells
theorem Ent.cells_len (x : Ent) : x.cells.length = 7 := by cases x <;> rfl
theorem flatE_len (es : List Ent) : (flatE es).length = es.length * 7 := by
  induction es with
  | nil => rfl
  | cons x r ih => rw [flatE, List.flatMap_cons, List.length_append, Ent.cells_len]; rw [flatE] at ih; rw [ih, List.length_cons]; omega
theorem flatE_at : ∀ {es : List Ent} {i c : Nat} {x : Ent}, es[i]? = some x → c < 7 → (flatE es)[i * 7 + c]? = x.cells[c]?
  | [], i, c, x, h, hc => by simp at h
  | y :: r, 0, c, x, h, hc => by
    simp at h; subst h
    rw [flatE, List.flatMap_cons, Nat.zero_mul, Nat.zero_add, List.getElem?_append_left (by rw [Ent.cells_len]; exact hc)]
  | y :: r, i + 1, c, x, h, hc => by
    rw [flatE, List.flatMap_cons, List.getElem?_append_right (by rw [Ent.cells_len]; omega), Ent.cells_len, show (i + 1) * 7 + c - 7 = i * 7 + c by omega]
    exact flatE_at (es := r) (by simpa using h) hc
structure DMem (w : World) (d : Nat) (ev : Value) (tb : Nat) (T : List Nat) (es : List Ent) (dr lv : Int) : Prop where
  hd : Blk w d 185 [ev, .slice (some ⟨tb, 0, none⟩) T.length T.length, .int .i64 dr, .int .i64 lv]
  rows : w.ownsRow 0 190 7 ev es.length (flatE es)
  tab : Blk w tb 3 (T.map fun x => .int .i64 (x : Nat))
section
variable {w w' : World} {d tb : Nat} {ev : Value} {T : List Nat} {es : List Ent} {dr lv : Int}
theorem DMem.of (h : DMem w d ev tb T es dr lv) (h1 : w'.heap[d]? = w.heap[d]?) (h2 : w'.heap[tb]? = w.heap[tb]?) (h3 : ∀ g, ev.ownBlock = some g → w'.heap[g]? = w.heap[g]?) : DMem w' d ev tb T es dr lv :=
  ⟨h.hd.of h1, ownsRow_of h.rows h3, h.tab.of h2⟩
theorem DMem.below (h : DMem w d ev tb T es dr lv) (hb : Below w.heap.size w w') : DMem w' d ev tb T es dr lv :=
  h.of (hb.block _ h.hd.lt) (hb.block _ h.tab.lt) (fun g hg => hb.block _ (h.rows.lt g hg).2)
theorem DMem.cell_tab (h : DMem w d ev tb T es dr lv) {p : Nat} (hp : p < T.length) : w.cell? ⟨tb, p, none⟩ = some (.int .i64 (T.getD p 0 : Nat)) :=
  h.tab.cell p _ (by simp [hp, List.getD])
theorem DMem.cell_ent (h : DMem w d ev tb T es dr lv) {i : Nat} {x : Ent} (hx : es[i]? = some x) : ∃ g cap, ev = .slice (some ⟨g, 0, none⟩) es.length cap ∧ es.length ≤ cap ∧ cap ≤ maxLen ∧ ∀ c u, c < 7 → x.cells[c]? = some u → w.cell? ⟨g, i * 7 + c, none⟩ = some u := by
  rcases h.rows.2 with ⟨_, hn⟩ | ⟨g, cap, cur, rfl, _, _, hc, hm, _⟩
  · rw [List.eq_nil_of_length_eq_zero hn] at hx; simp at hx
  · refine ⟨g, cap, rfl, hc, hm, fun c u hc7 hu => ?_⟩
    have := h.rows.cells (g := g) rfl (i * 7 + c) u (by rw [flatE_at hx hc7, hu])
    rwa [addr0] at this
theorem wrap64_eq (x : Int) : RowKit.wrap64 x = IntKind.i64.wrap x := (IntWalk.i64_left x).symm
def far (n q p : Nat) : Nat := if p ≤ q then q - p else q + n - p
theorem far_step (n q p : Nat) (hq : q < n) (hp : p < n) (hne : p ≠ q) : far n q ((p + 1) % n) < far n q p := by
  unfold far
  rcases Nat.lt_or_ge (p + 1) n with h | h
  · rw [Nat.mod_eq_of_lt h]; split <;> split <;> omega
  · rw [show p + 1 = n by omega, Nat.mod_self]; split <;> split <;> omega
theorem far_lt (n q p : Nat) (hq : q < n) (hp : p < n) : far n q p < n := by unfold far; split <;> omega
set_option maxHeartbeats 4000000 in
set_option maxRecDepth 20000 in
theorem find_calls (h : DMem w d ev tb T es dr lv) (hpow : ∃ m, T.length = 2 ^ m) (hbig : 8 ≤ T.length) (htop : T.length ≤ 1048576) (hle : ∀ x ∈ T, x ≤ es.length) (hz : ∃ q, q < T.length ∧ T.getD q 0 = 0) (k : Val) (hk : k.s.size ≤ maxLen) :
    Calls Try.prog 111 #[.pointer (some ⟨d, 0, none⟩), k.v] w fun e w' => e = .returned (.tuple #[.int .i64 ((findM T es k).1 : Nat), .int .i64 (findM T es k).2]) ∧ Below w.heap.size w w' := by
  obtain ⟨q, hq, hz⟩ := hz
  have hs := start_spec k T.length (by omega) (by omega)
  have HH := Lib.hid (fun (W : World) => hash_calls k hk W)
  have HF : Hid (findM T es k = probe T es k T.length (startM k T.length)) := Lib.hid rfl
  have HBIT := Lib.hid hs.1
  have HNX := Lib.hid (fun (p : Nat) (hp : p < T.length) => and_next T.length p hpow (by omega) hp)
  have HM := Lib.hid h
  have HT : Hid (∀ p, p < T.length → ∃ y, w.cell? ⟨tb, p, none⟩ = some (.int .i64 (T.getD p 0 : Nat)) ∧ T.getD p 0 = y ∧ y ≤ es.length) := Lib.hid (fun p hp => ⟨_, h.cell_tab hp, rfl, hle _ (by simp [List.getD, hp])⟩)
  have HS0 : Hid (startM k T.length < T.length) := Lib.hid hs.2
  have HZ := Lib.hid hz
  have HFS := Lib.hid (fun (p : Nat) (hp : p < T.length) (hne : p ≠ q) => far_step T.length q p hq hp hne)
  have HFL := Lib.hid (fun (p : Nat) (hp : p < T.length) => far_lt T.length q p hq hp)
  obtain ⟨ea, ec, hev⟩ := ownsRow_form h.rows
  subst hev
  have c0 := h.hd.cell 0 _ rfl
  have c1 := h.hd.cell 1 _ rfl
  obtain ⟨n, hn⟩ : ∃ n, n = T.length := ⟨_, rfl⟩
  have EN := Lib.hid hn
  rw [← hn] at c1 hbig htop hq
  rw [← hn] at HBIT HNX HT HS0 HFS HFL
  clear hn hs h hk hle hz hpow
  obtain ⟨k1, k2, k3⟩ := k
  have hb0 : Below w.heap.size w (w.alloc (.cells #[.int .i64 k1, .int .i64 k2, .string k3] 57)) := by (repeat (first | exact Below.refl _ _ | (refine Below.alloc ?_ (by simp <;> omega) _) | (refine Below.setCell ?_ (by simp <;> omega) _)))
  have hbx : Blk (w.alloc (.cells #[.int .i64 k1, .int .i64 k2, .string k3] 57)) w.heap.size 57 [.int .i64 k1, .int .i64 k2, .string k3] := Blk.new w [.int .i64 k1, .int .i64 k2, .string k3] 57
  have c1' := (hb0.cell (World.block_lt_of_cell? w _ c1)).trans c1
  have HC0 := Lib.hid c0
  have HC1 := Lib.hid c1
  have HB0 := Lib.hid hb0
  have HBX := Lib.hid hbx
  clear c0 c1 hb0 hbx
  go_enter Try.func111, Try.ntmps111
  go_wp2_with (go_at_call 148; (with_reducible refine (HH.out _).mono ?_); rintro e w1 ⟨rfl, hb⟩)
  have HB1 := Lib.hid (HB0.out.trans (hb.mono HB0.out.size))
  have HM1 := Lib.hid (HM.out.below HB1.out)
  have hx1 := HBX.out.of (hb.block _ HBX.out.lt)
  have x0 := hx1.cell 0 _ rfl
  have x1 := hx1.cell 1 _ rfl
  have x2 := hx1.cell 2 _ rfl
  have c0 := HM1.out.hd.cell 0 _ rfl
  have c1 := HM1.out.hd.cell 1 _ rfl
  rw [← EN.out] at c1

  clear hb hx1 HBX HB0 HC0 HC1 c1' HH
  go_loopw [4] (fun pv wr => ∃ p f n1 : Nat, p < n ∧ far n q p < f ∧ pv = .int .i64 p ∧ wr = w1.drewN n1 ∧ Hid (findM T es ⟨k1, k2, k3⟩ = probe T es ⟨k1, k2, k3⟩ f p)) (fun pv _ => far n q (intOf pv).toNat)
  case atStart =>
    exact ⟨_, n, 0, HS0.out, HFL.out _ HS0.out, by rw [← HBIT.out, ← wrap64_eq], rfl, Lib.hid (by rw [HF.out, ← EN.out])⟩
  case round =>
    obtain ⟨p, f, n1, hp, hf, rfl, rfl, hfd⟩ := hrel
    obtain ⟨f, rfl⟩ : ∃ g, f = g + 1 := ⟨f - 1, by omega⟩
    have hcp := HM1.out.cell_tab (p := p) (by rw [← EN.out]; exact hp)
    have hp0 : (0 : Int) ≤ (p : Int) := by omega
    have hp1 : (p : Int) < (n : Int) := by omega
    have hle := (HT.out p hp)
    obtain ⟨y, _, hy, hyl⟩ := hle
    have HY := Lib.hid hy
    rw [hy] at hcp
    unfold probe at hfd
    rw [hy] at hfd
    clear hy
    by_cases h0 : y = 0
    · subst h0
      have HR : Hid (findM T es ⟨k1, k2, k3⟩ = (p, -1)) := Lib.hid (by rw [hfd.out, if_pos rfl])
      clear hfd
      go_wp2_with fail
      go_ret2
      exact ⟨by rw [HR.out]; rfl, Below.drewN HB1.out _⟩
    · have hpq : p ≠ q := by rintro rfl; exact h0 (HY.out.symm.trans HZ.out)
      obtain ⟨x, rfl⟩ : ∃ x, y = x + 1 := ⟨y - 1, by omega⟩
      have hxl : x < es.length := by omega
      obtain ⟨y, hxy⟩ : ∃ y, es[x]? = some y := ⟨_, List.getElem?_eq_getElem hxl⟩
      have hyD : es.getD x none = y := by rw [List.getD_eq_getElem?_getD, hxy]; rfl
      obtain ⟨g, cap, heq, hc1, hc2, hcell⟩ := HM1.out.cell_ent hxy
      cases heq
      have hc2' : ec ≤ 9223372036854775807 := hc2
      rw [Nat.add_sub_cancel, hyD, if_neg h0] at hfd
      have hx0 : (0 : Int) ≤ (x : Int) := by omega
      have hx1 : (x : Int) < (es.length : Int) := by omega
      have hcp' : w1.cell? ⟨tb, p, none⟩ = some (.int .i64 ((x : Int) + 1)) := by rw [hcp]; simp
      have HFN := Lib.hid (HFS.out p hp hpq)
      have HPN := Lib.hid (HNX.out p hp)
      have HEN := Lib.hid hyD
      have HL2 : Hid (n ≤ 1048576) := Lib.hid htop
      clear hyD h0 hc2 hcp hxy hpq
      generalize es.length = m at *
      cases y with
      | none =>
        have u0 := hcell 6 _ (by decide) rfl
        go_wp2_with fail
        go_quiet (fail)
        go_wp2
        go_roundw
        case rel =>
          refine ⟨(p + 1) % n, f, _, Nat.mod_lt _ (by omega), by have := HFN.out; omega, by rw [HPN.out], rfl, Lib.hid ?_⟩
          rw [hfd.out, if_neg (by simp), ← EN.out]
        case measure =>
          rw [HPN.out]
          show far n q ((((p + 1) % n : Nat) : Int)).toNat < far n q ((p : Nat) : Int).toNat
          rw [Int.toNat_natCast, Int.toNat_natCast]
          exact HFN.out
      | some kv =>
        obtain ⟨⟨a1, a2, a3⟩, v⟩ := kv
        have u0 := hcell 6 _ (by decide) rfl
        have u1 := hcell 0 _ (by decide) rfl
        have u2 := hcell 1 _ (by decide) rfl
        have u3 := hcell 2 _ (by decide) rfl
        rw [Nat.add_zero] at u1
        by_cases he : (⟨a1, a2, a3⟩ : Val) = ⟨k1, k2, k3⟩
        · cases he
          have HR : Hid (findM T es ⟨k1, k2, k3⟩ = (p, (x : Int))) := Lib.hid (by rw [hfd.out]; simp)
          clear hfd
          go_wp2_with fail
          go_quiet (fail)
          go_wp2
          go_ret2
          refine ⟨by rw [HR.out]; rfl, ?_⟩
          exact Below.drewN HB1.out _
        · have HNE := Lib.hid he
          have h3 : (a1 == k1) = false ∨ a1 = k1 ∧ ((a2 == k2) = false ∨ a2 = k2 ∧ (a3.toList == k3.toList) = false) := by
            by_cases e1 : a1 = k1
            · subst e1
              by_cases e2 : a2 = k2
              · subst e2
                exact .inr ⟨rfl, .inr ⟨rfl, str_ne _ _ (fun e => he (by rw [e]))⟩⟩
              · exact .inr ⟨rfl, .inl (by simp [e2])⟩
            · exact .inl (by simp [e1])
          clear he
          rcases h3 with h3 | ⟨rfl, h3 | ⟨rfl, h3⟩⟩
          all_goals
            go_wp2_with fail
            go_quiet (fail)
            go_wp2
            go_roundw
            case rel =>
              refine ⟨(p + 1) % n, f, _, Nat.mod_lt _ (by omega), by have := HFN.out; omega, by rw [HPN.out], rfl, Lib.hid ?_⟩
              rw [hfd.out, if_neg (fun e => HNE.out (by simpa using e)), ← EN.out]
            case measure =>
              rw [HPN.out]
              show far n q ((((p + 1) % n : Nat) : Int)).toNat < far n q ((p : Nat) : Int).toNat
              rw [Int.toNat_natCast, Int.toNat_natCast]
              exact HFN.out
end
end Go.Proofs.Ytmjfmfelbmbniaa
