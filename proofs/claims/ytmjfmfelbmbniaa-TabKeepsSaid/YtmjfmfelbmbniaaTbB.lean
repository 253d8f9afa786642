/- Layer 14: steps as they come in; great; one step of a table. -/
import Derived.Test.YtmjfmfelbmbniaaTbA
namespace Go.Proofs.Ytmjfmfelbmbniaa
open Go.RowKit Go.Maps HK ShM
set_option linter.unusedVariables false
set_option linter.unusedSimpArgs false
attribute [local go_sem ↓] run_max_two run_min_two
/-- A step of a table: which, a number, a key, a value. -/
structure OpT where
  c : Int
  n : Int
  k : Val
  v : Val
abbrev OpT.cells (x : OpT) : List Value := [.int .i64 x.c, .int .i64 x.n, .int .i64 x.k.k, .int .i64 x.k.n, .string x.k.s, .int .i64 x.v.k, .int .i64 x.v.n, .string x.v.s]
abbrev OpT.a (x : OpT) : Value := .agg #[.int .i64 x.c, .int .i64 x.n, .int .i64 x.k.k, .int .i64 x.k.n, .string x.k.s, .int .i64 x.v.k, .int .i64 x.v.n, .string x.v.s]
/-- What a step answers. -/
structure AnsT where
  k : Val
  v : Val
  n : Int
  e : Int
  is : Bool
abbrev AnsT.cells (x : AnsT) : List Value := [.int .i64 x.k.k, .int .i64 x.k.n, .string x.k.s, .int .i64 x.v.k, .int .i64 x.v.n, .string x.v.s, .int .i64 x.n, .int .i64 x.e, .bool x.is]
abbrev AnsT.a (x : AnsT) : Value := .agg #[.int .i64 x.k.k, .int .i64 x.k.n, .string x.k.s, .int .i64 x.v.k, .int .i64 x.v.n, .string x.v.s, .int .i64 x.n, .int .i64 x.e, .bool x.is]
def doAT (D F : Int) (T : List Sh) (s : Tab) (x : OpT) : AnsT :=
  if x.c = 1 then ⟨Val.nil, Val.nil, (tsetM D F T s x.k x.v).fresh, (tsetM D F T s x.k x.v).e, false⟩
  else if x.c = 2 then ⟨Val.nil, tgetM s x.k, 0, 0, false⟩
  else if x.c = 3 then ⟨(tnextM s x.k).1.1, (tnextM s x.k).1.2, 0, (tnextM s x.k).2, false⟩
  else if x.c = 4 then ⟨Val.nil, tatM s x.n, 0, 0, false⟩
  else if x.c = 5 then ⟨Val.nil, Val.nil, 0, 0, hasS s x.n⟩
  else if x.c = 6 then ⟨Val.nil, Val.nil, ((slotK T s x.k.s).getD 0 : Nat), 0, (slotK T s x.k.s).isSome⟩
  else ⟨Val.nil, Val.nil, 0, 0, false⟩
def doST (D F : Int) (T : List Sh) (s : Tab) (x : OpT) : Tab := if x.c = 1 then (tsetM D F T s x.k x.v).s else if x.c = 5 then tputM s x.n x.v else s
def doTT (D F : Int) (T : List Sh) (s : Tab) (x : OpT) : List Sh := if x.c = 1 then (tsetM D F T s x.k x.v).T else T
/-- A slice of steps that is only read. -/
def RdT14 (w : World) (v : Value) (l : List OpT) : Prop := ∃ a c, v = .slice a l.length c ∧ l.length ≤ c ∧ c ≤ maxLen ∧ l.length ≤ 140737488355328 ∧ ∀ j x, l[j]? = some x → (x.k.s.size ≤ 140737488355328 ∧ x.v.s.size ≤ 140737488355328) ∧ ∃ b off, a = some ⟨b, off, none⟩ ∧ ∀ i u, x.cells[i]? = some u → w.cell? ⟨b, off + j * 8 + i, none⟩ = some u
theorem RdT14.below {w w' : World} {v : Value} {l : List OpT} {N : Nat} (h : RdT14 w v l) (hb : Below N w w') (hN : w.heap.size ≤ N) : RdT14 w' v l := by
  obtain ⟨a, c, rfl, h1, h2, h20, h3⟩ := h
  refine ⟨a, c, rfl, h1, h2, h20, fun j s hj => ?_⟩
  obtain ⟨hs, b, off, rfl, hc⟩ := h3 j s hj
  exact ⟨hs, b, off, rfl, fun i u hu => (hb.cell (Nat.lt_of_lt_of_le (World.block_lt_of_cell? w _ (hc i u hu)) hN)).trans (hc i u hu)⟩
def GreatT (w : World) (nl : Nat) (e : Ending) (w' : World) : Prop := ∃ g : Bool, e = .returned (.bool g) ∧ (g = false → nl ≤ 400) ∧ Below w.heap.size w w'
set_option maxHeartbeats 2000000 in
set_option maxRecDepth 20000 in
theorem tgreat_calls (lv : Value) (l : List OpT) (w : World) (hl : RdT14 w lv l) :
    Calls Try.prog 85 #[lv] w (GreatT w l.length) := by
  obtain ⟨a, c, rfl, hlc, hcm, h47, hcell⟩ := hl
  have HC := Lib.hid hcell
  have hcm' : c ≤ 9223372036854775807 := hcm
  obtain ⟨n2, hn2⟩ : ∃ n, n = l.length := ⟨_, rfl⟩
  have E2 := Lib.hid hn2
  rw [← hn2] at hlc h47 ⊢
  clear hcell hcm hn2
  go_enter Try.func85, Try.ntmps85
  go_wp2_with fail
  go_loopw [3, 8] (fun n i wr => ∃ k m : Nat, k ≤ n2 ∧ i = .int .i64 k ∧ n = .int .i64 m ∧ m ≤ 50 * k ∧ Hid (Below w.heap.size w wr)) (fun _ i _ => n2 - (intOf i).toNat)
  case atStart => exact ⟨0, 0, by omega, rfl, rfl, by omega, Lib.hid (Below.refl _ _)⟩
  case round =>
    obtain ⟨k, m, hk, rfl, rfl, hm2, hB⟩ := hrel
    by_cases hlt : k < n2
    · have hkl : k < l.length := by rw [← E2.out]; exact hlt
      obtain ⟨x, hx⟩ : ∃ x, l[k]? = some x := ⟨_, List.getElem?_eq_getElem hkl⟩
      obtain ⟨⟨hs1, hs2⟩, b, off, rfl, hcl⟩ := HC.out k x hx
      have hc := fun i u hu => (hB.out.cell (World.block_lt_of_cell? w _ (hcl i u hu))).trans (hcl i u hu)
      have u0 := hc 0 _ rfl
      have u1 := hc 1 _ rfl
      have u2 := hc 2 _ rfl
      have u3 := hc 3 _ rfl
      have u4 := hc 4 _ rfl
      have u5 := hc 5 _ rfl
      have u6 := hc 6 _ rfl
      have u7 := hc 7 _ rfl
      rw [Nat.add_zero] at u0
      clear hc hcl hx hkl
      go_wp2_with fail
      go_roundw
      case rel => exact ⟨k + 1, m + min (x.k.s.size + x.v.s.size) 1000 / 20, by omega, by go_num, by congr 1; omega, by omega, Lib.hid (hB.out.alloc hB.out.size _)⟩
      case measure => simp [intOf]; omega
    · obtain rfl : k = n2 := by omega
      go_wp2_with fail
      all_goals
        go_ret
        refine ⟨_, rfl, fun h => ?_, hB.out⟩
        first | (simp at h; omega) | (simp at h)
theorem results_ansT {fn : Func} {t : Tmp} {b : Nat} {x : AnsT} (hr : fn.results = #[.cell t 138]) (tmps : Array Value) (ht : tmps.getD t undef = .pointer (some ⟨b, 0, none⟩)) {w : World} (h : Blk w b 138 x.cells) : (results fn tmps).run Try.prog w = .ok x.a w := by
  have x0 := h.cell 0 _ rfl
  have x1 := h.cell 1 _ rfl
  have x2 := h.cell 2 _ rfl
  have x3 := h.cell 3 _ rfl
  have x4 := h.cell 4 _ rfl
  have x5 := h.cell 5 _ rfl
  have x6 := h.cell 6 _ rfl
  have x7 := h.cell 7 _ rfl
  have x8 := h.cell 8 _ rfl
  have ht' : tmps[t]?.getD undef = .pointer (some ⟨b, 0, none⟩) := (RG.getD_form ⟨tmps, []⟩ t).symm.trans ht
  simp [results, hr, ht', go_sem, x0, x1, x2, x3, x4, x5, x6, x7, x8]
section
variable {w w' w0 : World} {U Zp Y : Nat → Prop} {q : Option Addr} {D F : Int} {T : List Sh} {N i tb : Nat} {mp : Value} {s : Tab} {tabs : List T3} {L : List (Nat × TypeId × List Value)}
theorem TL.next (h : TL w0 w Zp q D F T N tabs L) (hi : tabs[i]? = some (tb, mp, s)) (x : Val) (hx : x.s.size ≤ maxLen) (hN : N ≤ 100000) : Calls Try.prog 73 #[.pointer (some ⟨tb, 0, none⟩), x.v] w fun e w' => e = .returned (.tuple #[(tnextM s x).1.1.v, (tnextM s x).1.2.v, .int .i64 (tnextM s x).2]) ∧ Below w.heap.size w w' := by
  obtain ⟨B, X, h1, h2, h3, h4⟩ := h.at hi
  exact tnext_calls h2 h1 x hx (by omega)
/-- What is done in boxes that stand beside the tables. -/
theorem TL.boxes {M : List (Nat × TypeId × List Value)} (h : TL w0 w Zp q D F T N tabs L) (hM : ∀ c ∈ M, c ∈ L) {C : Nat → Prop} (hC : ∀ b, C b → w0.heap.size ≤ b ∧ (∃ c ∈ L, c.1 = b) ∧ ∀ c ∈ M, c.1 ≠ b) (hc : Chg C w w') : TL w0 w' Zp q D F T N tabs M := by
  obtain ⟨U, h1, h2, h3, h4, h5⟩ := h
  obtain ⟨V, g1, g2⟩ := h1.lt
  refine ⟨V, g1.of hc.size (fun b hb => hc.block b (g2 b hb).2 (fun hcb => ?_)), fun b hb => h2 b (g2 b hb).1, h3.trans (hc.below h3.size (fun b hb => (hC b hb).1)), fun b hz => Nat.lt_of_lt_of_le (h4 b hz) hc.size, fun c hc' => ⟨(h5 c (hM c hc')).1.of (hc.block _ (h5 c (hM c hc')).1.lt (fun hcb => (hC _ hcb).2.2 c hc' rfl)), fun hu => (h5 c (hM c hc')).2.1 (g2 _ hu).1, (h5 c (hM c hc')).2.2⟩⟩
  obtain ⟨c, hcL, e⟩ := (hC b hcb).2.1
  exact (h5 c hcL).2.1 (by rw [e]; exact (g2 b hb).1)
theorem Blk.store9 {w : World} {b : Nat} {cs : List Value} (h : Blk w b 138 cs) (hl : cs.length = 9) (a0 a1 a2 a3 a4 a5 a6 a7 a8 : Value) :
    Blk (((((((((w.setCell ⟨b, 0, none⟩ a0).setCell ⟨b, 1, none⟩ a1).setCell ⟨b, 2, none⟩ a2).setCell ⟨b, 3, none⟩ a3).setCell ⟨b, 4, none⟩ a4).setCell ⟨b, 5, none⟩ a5).setCell ⟨b, 6, none⟩ a6).setCell ⟨b, 7, none⟩ a7).setCell ⟨b, 8, none⟩ a8) b 138 [a0, a1, a2, a3, a4, a5, a6, a7, a8] := by
  have h1 := ((((((((h.setSame 0 a0).setSame 1 a1).setSame 2 a2).setSame 3 a3).setSame 4 a4).setSame 5 a5).setSame 6 a6).setSame 7 a7).setSame 8 a8
  match cs, hl with
  | [c0, c1, c2, c3, c4, c5, c6, c7, c8], _ => exact h1
set_option maxHeartbeats 8000000 in
set_option maxRecDepth 20000 in
theorem tdo_1 (h : TL w0 w Zp q D F T N tabs L) (hi : tabs[i]? = some (tb, mp, s)) (hN : N ≤ 99999) (m k1 k2 : Int) (k3 : ByteArray) (v1 v2 : Int) (v3 : ByteArray) (hx : k3.size ≤ maxLen) (f e0 : Int) (s' : Tab) (T' : List Sh) (ho : tsetM D F T s ⟨k1, k2, k3⟩ ⟨v1, v2, v3⟩ = ⟨f, e0, s', T'⟩) : Calls Try.prog 86 #[.pointer (some ⟨tb, 0, none⟩), .agg #[.int .i64 1, .int .i64 m, .int .i64 k1, .int .i64 k2, .string k3, .int .i64 v1, .int .i64 v2, .string v3]] w fun e w' =>
    e = .returned (⟨Val.nil, Val.nil, f, e0, false⟩ : AnsT).a ∧ TL w0 w' Zp q D F (T') (N + 1) (tabs.set i (tb, mp, s')) L ∧ Chg (fun b => w0.heap.size ≤ b ∧ ¬ Zp b) w w' := by
  have D0 : Hid (TL w0 (((w.alloc (.cells #[.int .i64 1, .int .i64 m, .int .i64 k1, .int .i64 k2, .string k3, .int .i64 v1, .int .i64 v2, .string v3] 130)).alloc (.cells #[.int .i64 0, .int .i64 0, .string ⟨#[]⟩, .int .i64 0, .int .i64 0, .string ⟨#[]⟩, .int .i64 0, .int .i64 0, .bool false] 138)).alloc (.cells #[.int .i64 0, .int .i64 0, .string ⟨#[]⟩, .int .i64 0, .int .i64 0, .string ⟨#[]⟩, .int .i64 0, .int .i64 0, .bool false] 138)) Zp q D F T N tabs (((w.heap.size + 1 + 1), 138, [.int .i64 0, .int .i64 0, .string ⟨#[]⟩, .int .i64 0, .int .i64 0, .string ⟨#[]⟩, .int .i64 0, .int .i64 0, .bool false]) :: ((w.heap.size + 1), 138, [.int .i64 0, .int .i64 0, .string ⟨#[]⟩, .int .i64 0, .int .i64 0, .string ⟨#[]⟩, .int .i64 0, .int .i64 0, .bool false]) :: (w.heap.size, 130, [.int .i64 1, .int .i64 m, .int .i64 k1, .int .i64 k2, .string k3, .int .i64 v1, .int .i64 v2, .string v3]) :: L)) := Lib.hid (by
    have h1 := ((h.alloc [.int .i64 1, .int .i64 m, .int .i64 k1, .int .i64 k2, .string k3, .int .i64 v1, .int .i64 v2, .string v3] 130).alloc [.int .i64 0, .int .i64 0, .string ⟨#[]⟩, .int .i64 0, .int .i64 0, .string ⟨#[]⟩, .int .i64 0, .int .i64 0, .bool false] 138).alloc [.int .i64 0, .int .i64 0, .string ⟨#[]⟩, .int .i64 0, .int .i64 0, .string ⟨#[]⟩, .int .i64 0, .int .i64 0, .bool false] 138
    simpa using h1)
  have HC0 : Hid (Chg (fun b => w0.heap.size ≤ b ∧ ¬ Zp b) w (((w.alloc (.cells #[.int .i64 1, .int .i64 m, .int .i64 k1, .int .i64 k2, .string k3, .int .i64 v1, .int .i64 v2, .string v3] 130)).alloc (.cells #[.int .i64 0, .int .i64 0, .string ⟨#[]⟩, .int .i64 0, .int .i64 0, .string ⟨#[]⟩, .int .i64 0, .int .i64 0, .bool false] 138)).alloc (.cells #[.int .i64 0, .int .i64 0, .string ⟨#[]⟩, .int .i64 0, .int .i64 0, .string ⟨#[]⟩, .int .i64 0, .int .i64 0, .bool false] 138))) := Lib.hid (Chg.ofBelow (by (repeat (first | exact Below.refl _ _ | (refine Below.alloc ?_ (by simp <;> omega) _)))))
  have HLT := Lib.hid (fun c hc => (h.blk (c := c) hc).lt)
  have HW0 := Lib.hid h.bel.size
  have HNB : Hid (∀ c ∈ L, c.1 ≠ w.heap.size + 1 ∧ c.1 ≠ w.heap.size + 1 + 1) := Lib.hid (fun c hc => by have := HLT.out c hc; omega)
  have hne : w.heap.size + 1 ≠ w.heap.size + 1 + 1 := by omega
  have HIX := Lib.hid hi
  clear h hi
  go_enter Try.func86, Try.ntmps86
  go_upto_region 3 with fail
  obtain ⟨w1, hw1⟩ : ∃ W, W = (((w.alloc (.cells #[.int .i64 1, .int .i64 m, .int .i64 k1, .int .i64 k2, .string k3, .int .i64 v1, .int .i64 v2, .string v3] 130)).alloc (.cells #[.int .i64 0, .int .i64 0, .string ⟨#[]⟩, .int .i64 0, .int .i64 0, .string ⟨#[]⟩, .int .i64 0, .int .i64 0, .bool false] 138)).alloc (.cells #[.int .i64 0, .int .i64 0, .string ⟨#[]⟩, .int .i64 0, .int .i64 0, .string ⟨#[]⟩, .int .i64 0, .int .i64 0, .bool false] 138)) := ⟨_, rfl⟩
  rw [← hw1] at D0 HC0 ⊢
  clear hw1
  have hbx := D0.out.blk (c := (w.heap.size, 130, [.int .i64 1, .int .i64 m, .int .i64 k1, .int .i64 k2, .string k3, .int .i64 v1, .int .i64 v2, .string v3])) (by simp)
  have p0 := hbx.cell 0 _ rfl
  have p1 := hbx.cell 1 _ rfl
  have p2 := hbx.cell 2 _ rfl
  have p3 := hbx.cell 3 _ rfl
  have p4 := hbx.cell 4 _ rfl
  have p5 := hbx.cell 5 _ rfl
  have p6 := hbx.cell 6 _ rfl
  have p7 := hbx.cell 7 _ rfl
  clear hbx
  have HCA := Lib.hid (by have := D0.out.set HIX.out ⟨k1, k2, k3⟩ ⟨v1, v2, v3⟩ hx (by omega); rw [ho] at this; exact this)
  clear hx hN
  go_wp2_with (go_at_call 63; (with_reducible refine HCA.out.mono ?_); rintro e w2 ⟨rfl, hh, hch⟩; have D2 := Lib.hid hh; have HC2 := Lib.hid (HC0.out.trans hch (fun b _ h => h)); clear hh hch; have G4 := Lib.hid (D2.out.blk (c := ((w.heap.size + 1), 138, [.int .i64 0, .int .i64 0, .string ⟨#[]⟩, .int .i64 0, .int .i64 0, .string ⟨#[]⟩, .int .i64 0, .int .i64 0, .bool false])) (by simp)); have G5 := Lib.hid (D2.out.blk (c := ((w.heap.size + 1 + 1), 138, [.int .i64 0, .int .i64 0, .string ⟨#[]⟩, .int .i64 0, .int .i64 0, .string ⟨#[]⟩, .int .i64 0, .int .i64 0, .bool false])) (by simp)); have x0 := G4.out.cell 0 _ rfl; have f0 := G4.out.frozen 0; have y0 := G5.out.cell 0 _ rfl; have fz0 := G5.out.frozen 0; have x1 := G4.out.cell 1 _ rfl; have f1 := G4.out.frozen 1; have y1 := G5.out.cell 1 _ rfl; have fz1 := G5.out.frozen 1; have x2 := G4.out.cell 2 _ rfl; have f2 := G4.out.frozen 2; have y2 := G5.out.cell 2 _ rfl; have fz2 := G5.out.frozen 2; have x3 := G4.out.cell 3 _ rfl; have f3 := G4.out.frozen 3; have y3 := G5.out.cell 3 _ rfl; have fz3 := G5.out.frozen 3; have x4 := G4.out.cell 4 _ rfl; have f4 := G4.out.frozen 4; have y4 := G5.out.cell 4 _ rfl; have fz4 := G5.out.frozen 4; have x5 := G4.out.cell 5 _ rfl; have f5 := G4.out.frozen 5; have y5 := G5.out.cell 5 _ rfl; have fz5 := G5.out.frozen 5; have x6 := G4.out.cell 6 _ rfl; have f6 := G4.out.frozen 6; have y6 := G5.out.cell 6 _ rfl; have fz6 := G5.out.frozen 6; have x7 := G4.out.cell 7 _ rfl; have f7 := G4.out.frozen 7; have y7 := G5.out.cell 7 _ rfl; have fz7 := G5.out.frozen 7; have x8 := G4.out.cell 8 _ rfl; have f8 := G4.out.frozen 8; have y8 := G5.out.cell 8 _ rfl; have fz8 := G5.out.frozen 8)
  refine bodyPost_ret (results_ansT (x := ⟨Val.nil, Val.nil, f, e0, false⟩) rfl _ rfl (Blk.store9 (((G4.out.setOther hne _).setOther hne _)) rfl _ _ _ _ _ _ _ _ _)) rfl ⟨rfl, D2.out.boxes (C := fun b => b = w.heap.size + 1 ∨ b = w.heap.size + 1 + 1) (fun c hc => List.mem_cons_of_mem _ (List.mem_cons_of_mem _ (List.mem_cons_of_mem _ hc))) (fun b hb => ?_) ?_, ?_⟩
  · have h0 := HW0.out
    rcases hb with rfl | rfl
    · exact ⟨by omega, ⟨((w.heap.size + 1), 138, [.int .i64 0, .int .i64 0, .string ⟨#[]⟩, .int .i64 0, .int .i64 0, .string ⟨#[]⟩, .int .i64 0, .int .i64 0, .bool false]), by simp, rfl⟩, fun c hc => (HNB.out c hc).1⟩
    · exact ⟨by omega, ⟨((w.heap.size + 1 + 1), 138, [.int .i64 0, .int .i64 0, .string ⟨#[]⟩, .int .i64 0, .int .i64 0, .string ⟨#[]⟩, .int .i64 0, .int .i64 0, .bool false]), by simp, rfl⟩, fun c hc => (HNB.out c hc).2⟩
  · (repeat (with_reducible refine Chg.setCell ?_ (fun _ => by first | exact .inl rfl | exact .inr rfl) _))
    exact Chg.refl _ _
  · (repeat (with_reducible refine Chg.setCell ?_ (fun h => absurd h (by simp <;> omega)) _))
    exact HC2.out
set_option maxHeartbeats 8000000 in
set_option maxRecDepth 20000 in
theorem tdo_2 (h : TL w0 w Zp q D F T N tabs L) (hi : tabs[i]? = some (tb, mp, s)) (hN : N ≤ 99999) (m k1 k2 : Int) (k3 : ByteArray) (v1 v2 : Int) (v3 : ByteArray) (hx : k3.size ≤ maxLen) (g1 g2 : Int) (g3 : ByteArray) (ho : tgetM s ⟨k1, k2, k3⟩ = ⟨g1, g2, g3⟩) : Calls Try.prog 86 #[.pointer (some ⟨tb, 0, none⟩), .agg #[.int .i64 2, .int .i64 m, .int .i64 k1, .int .i64 k2, .string k3, .int .i64 v1, .int .i64 v2, .string v3]] w fun e w' =>
    e = .returned (⟨Val.nil, ⟨g1, g2, g3⟩, 0, 0, false⟩ : AnsT).a ∧ TL w0 w' Zp q D F (T) (N + 1) (tabs) L ∧ Chg (fun b => w0.heap.size ≤ b ∧ ¬ Zp b) w w' := by
  have D0 : Hid (TL w0 (((w.alloc (.cells #[.int .i64 2, .int .i64 m, .int .i64 k1, .int .i64 k2, .string k3, .int .i64 v1, .int .i64 v2, .string v3] 130)).alloc (.cells #[.int .i64 0, .int .i64 0, .string ⟨#[]⟩, .int .i64 0, .int .i64 0, .string ⟨#[]⟩, .int .i64 0, .int .i64 0, .bool false] 138)).alloc (.cells #[.int .i64 0, .int .i64 0, .string ⟨#[]⟩, .int .i64 0, .int .i64 0, .string ⟨#[]⟩, .int .i64 0, .int .i64 0, .bool false] 138)) Zp q D F T N tabs (((w.heap.size + 1 + 1), 138, [.int .i64 0, .int .i64 0, .string ⟨#[]⟩, .int .i64 0, .int .i64 0, .string ⟨#[]⟩, .int .i64 0, .int .i64 0, .bool false]) :: ((w.heap.size + 1), 138, [.int .i64 0, .int .i64 0, .string ⟨#[]⟩, .int .i64 0, .int .i64 0, .string ⟨#[]⟩, .int .i64 0, .int .i64 0, .bool false]) :: (w.heap.size, 130, [.int .i64 2, .int .i64 m, .int .i64 k1, .int .i64 k2, .string k3, .int .i64 v1, .int .i64 v2, .string v3]) :: L)) := Lib.hid (by
    have h1 := ((h.alloc [.int .i64 2, .int .i64 m, .int .i64 k1, .int .i64 k2, .string k3, .int .i64 v1, .int .i64 v2, .string v3] 130).alloc [.int .i64 0, .int .i64 0, .string ⟨#[]⟩, .int .i64 0, .int .i64 0, .string ⟨#[]⟩, .int .i64 0, .int .i64 0, .bool false] 138).alloc [.int .i64 0, .int .i64 0, .string ⟨#[]⟩, .int .i64 0, .int .i64 0, .string ⟨#[]⟩, .int .i64 0, .int .i64 0, .bool false] 138
    simpa using h1)
  have HC0 : Hid (Chg (fun b => w0.heap.size ≤ b ∧ ¬ Zp b) w (((w.alloc (.cells #[.int .i64 2, .int .i64 m, .int .i64 k1, .int .i64 k2, .string k3, .int .i64 v1, .int .i64 v2, .string v3] 130)).alloc (.cells #[.int .i64 0, .int .i64 0, .string ⟨#[]⟩, .int .i64 0, .int .i64 0, .string ⟨#[]⟩, .int .i64 0, .int .i64 0, .bool false] 138)).alloc (.cells #[.int .i64 0, .int .i64 0, .string ⟨#[]⟩, .int .i64 0, .int .i64 0, .string ⟨#[]⟩, .int .i64 0, .int .i64 0, .bool false] 138))) := Lib.hid (Chg.ofBelow (by (repeat (first | exact Below.refl _ _ | (refine Below.alloc ?_ (by simp <;> omega) _)))))
  have HLT := Lib.hid (fun c hc => (h.blk (c := c) hc).lt)
  have HW0 := Lib.hid h.bel.size
  have HNB : Hid (∀ c ∈ L, c.1 ≠ w.heap.size + 1 ∧ c.1 ≠ w.heap.size + 1 + 1) := Lib.hid (fun c hc => by have := HLT.out c hc; omega)
  have hne : w.heap.size + 1 ≠ w.heap.size + 1 + 1 := by omega
  have HIX := Lib.hid hi
  clear h hi
  go_enter Try.func86, Try.ntmps86
  go_upto_region 3 with fail
  obtain ⟨w1, hw1⟩ : ∃ W, W = (((w.alloc (.cells #[.int .i64 2, .int .i64 m, .int .i64 k1, .int .i64 k2, .string k3, .int .i64 v1, .int .i64 v2, .string v3] 130)).alloc (.cells #[.int .i64 0, .int .i64 0, .string ⟨#[]⟩, .int .i64 0, .int .i64 0, .string ⟨#[]⟩, .int .i64 0, .int .i64 0, .bool false] 138)).alloc (.cells #[.int .i64 0, .int .i64 0, .string ⟨#[]⟩, .int .i64 0, .int .i64 0, .string ⟨#[]⟩, .int .i64 0, .int .i64 0, .bool false] 138)) := ⟨_, rfl⟩
  rw [← hw1] at D0 HC0 ⊢
  clear hw1
  have hbx := D0.out.blk (c := (w.heap.size, 130, [.int .i64 2, .int .i64 m, .int .i64 k1, .int .i64 k2, .string k3, .int .i64 v1, .int .i64 v2, .string v3])) (by simp)
  have p0 := hbx.cell 0 _ rfl
  have p1 := hbx.cell 1 _ rfl
  have p2 := hbx.cell 2 _ rfl
  have p3 := hbx.cell 3 _ rfl
  have p4 := hbx.cell 4 _ rfl
  have p5 := hbx.cell 5 _ rfl
  have p6 := hbx.cell 6 _ rfl
  have p7 := hbx.cell 7 _ rfl
  clear hbx
  have HCA := Lib.hid (by have := D0.out.get HIX.out ⟨k1, k2, k3⟩ hx (by omega); rw [ho] at this; exact this)
  clear hx hN
  go_wp2_with (go_at_call 67; (with_reducible refine HCA.out.mono ?_); rintro e w2 ⟨rfl, hb⟩; have hh := True.intro; have hch := True.intro; have D2 := Lib.hid ((D0.out.below hb).mono (Nat.le_succ N)); have HC2 := Lib.hid (HC0.out.trans (Chg.ofBelow (B := fun b => w0.heap.size ≤ b ∧ ¬ Zp b) hb) (fun b _ h => h)); clear hb; clear hh hch; have G4 := Lib.hid (D2.out.blk (c := ((w.heap.size + 1), 138, [.int .i64 0, .int .i64 0, .string ⟨#[]⟩, .int .i64 0, .int .i64 0, .string ⟨#[]⟩, .int .i64 0, .int .i64 0, .bool false])) (by simp)); have G5 := Lib.hid (D2.out.blk (c := ((w.heap.size + 1 + 1), 138, [.int .i64 0, .int .i64 0, .string ⟨#[]⟩, .int .i64 0, .int .i64 0, .string ⟨#[]⟩, .int .i64 0, .int .i64 0, .bool false])) (by simp)); have x0 := G4.out.cell 0 _ rfl; have f0 := G4.out.frozen 0; have y0 := G5.out.cell 0 _ rfl; have fz0 := G5.out.frozen 0; have x1 := G4.out.cell 1 _ rfl; have f1 := G4.out.frozen 1; have y1 := G5.out.cell 1 _ rfl; have fz1 := G5.out.frozen 1; have x2 := G4.out.cell 2 _ rfl; have f2 := G4.out.frozen 2; have y2 := G5.out.cell 2 _ rfl; have fz2 := G5.out.frozen 2; have x3 := G4.out.cell 3 _ rfl; have f3 := G4.out.frozen 3; have y3 := G5.out.cell 3 _ rfl; have fz3 := G5.out.frozen 3; have x4 := G4.out.cell 4 _ rfl; have f4 := G4.out.frozen 4; have y4 := G5.out.cell 4 _ rfl; have fz4 := G5.out.frozen 4; have x5 := G4.out.cell 5 _ rfl; have f5 := G4.out.frozen 5; have y5 := G5.out.cell 5 _ rfl; have fz5 := G5.out.frozen 5; have x6 := G4.out.cell 6 _ rfl; have f6 := G4.out.frozen 6; have y6 := G5.out.cell 6 _ rfl; have fz6 := G5.out.frozen 6; have x7 := G4.out.cell 7 _ rfl; have f7 := G4.out.frozen 7; have y7 := G5.out.cell 7 _ rfl; have fz7 := G5.out.frozen 7; have x8 := G4.out.cell 8 _ rfl; have f8 := G4.out.frozen 8; have y8 := G5.out.cell 8 _ rfl; have fz8 := G5.out.frozen 8)
  refine bodyPost_ret (results_ansT (x := ⟨Val.nil, ⟨g1, g2, g3⟩, 0, 0, false⟩) rfl _ rfl (Blk.store9 (((((G4.out.setOther hne _).setOther hne _).setOther hne _).setOther hne _)) rfl _ _ _ _ _ _ _ _ _)) rfl ⟨rfl, D2.out.boxes (C := fun b => b = w.heap.size + 1 ∨ b = w.heap.size + 1 + 1) (fun c hc => List.mem_cons_of_mem _ (List.mem_cons_of_mem _ (List.mem_cons_of_mem _ hc))) (fun b hb => ?_) ?_, ?_⟩
  · have h0 := HW0.out
    rcases hb with rfl | rfl
    · exact ⟨by omega, ⟨((w.heap.size + 1), 138, [.int .i64 0, .int .i64 0, .string ⟨#[]⟩, .int .i64 0, .int .i64 0, .string ⟨#[]⟩, .int .i64 0, .int .i64 0, .bool false]), by simp, rfl⟩, fun c hc => (HNB.out c hc).1⟩
    · exact ⟨by omega, ⟨((w.heap.size + 1 + 1), 138, [.int .i64 0, .int .i64 0, .string ⟨#[]⟩, .int .i64 0, .int .i64 0, .string ⟨#[]⟩, .int .i64 0, .int .i64 0, .bool false]), by simp, rfl⟩, fun c hc => (HNB.out c hc).2⟩
  · (repeat (with_reducible refine Chg.setCell ?_ (fun _ => by first | exact .inl rfl | exact .inr rfl) _))
    exact Chg.refl _ _
  · (repeat (with_reducible refine Chg.setCell ?_ (fun h => absurd h (by simp <;> omega)) _))
    exact HC2.out
set_option maxHeartbeats 8000000 in
set_option maxRecDepth 20000 in
theorem tdo_3 (h : TL w0 w Zp q D F T N tabs L) (hi : tabs[i]? = some (tb, mp, s)) (hN : N ≤ 99999) (m k1 k2 : Int) (k3 : ByteArray) (v1 v2 : Int) (v3 : ByteArray) (hx : k3.size ≤ maxLen) (r1 r2 : Int) (r3 : ByteArray) (g1 g2 : Int) (g3 : ByteArray) (e0 : Int) (ho : tnextM s ⟨k1, k2, k3⟩ = ((⟨r1, r2, r3⟩, ⟨g1, g2, g3⟩), e0)) : Calls Try.prog 86 #[.pointer (some ⟨tb, 0, none⟩), .agg #[.int .i64 3, .int .i64 m, .int .i64 k1, .int .i64 k2, .string k3, .int .i64 v1, .int .i64 v2, .string v3]] w fun e w' =>
    e = .returned (⟨⟨r1, r2, r3⟩, ⟨g1, g2, g3⟩, 0, e0, false⟩ : AnsT).a ∧ TL w0 w' Zp q D F (T) (N + 1) (tabs) L ∧ Chg (fun b => w0.heap.size ≤ b ∧ ¬ Zp b) w w' := by
  have D0 : Hid (TL w0 (((w.alloc (.cells #[.int .i64 3, .int .i64 m, .int .i64 k1, .int .i64 k2, .string k3, .int .i64 v1, .int .i64 v2, .string v3] 130)).alloc (.cells #[.int .i64 0, .int .i64 0, .string ⟨#[]⟩, .int .i64 0, .int .i64 0, .string ⟨#[]⟩, .int .i64 0, .int .i64 0, .bool false] 138)).alloc (.cells #[.int .i64 0, .int .i64 0, .string ⟨#[]⟩, .int .i64 0, .int .i64 0, .string ⟨#[]⟩, .int .i64 0, .int .i64 0, .bool false] 138)) Zp q D F T N tabs (((w.heap.size + 1 + 1), 138, [.int .i64 0, .int .i64 0, .string ⟨#[]⟩, .int .i64 0, .int .i64 0, .string ⟨#[]⟩, .int .i64 0, .int .i64 0, .bool false]) :: ((w.heap.size + 1), 138, [.int .i64 0, .int .i64 0, .string ⟨#[]⟩, .int .i64 0, .int .i64 0, .string ⟨#[]⟩, .int .i64 0, .int .i64 0, .bool false]) :: (w.heap.size, 130, [.int .i64 3, .int .i64 m, .int .i64 k1, .int .i64 k2, .string k3, .int .i64 v1, .int .i64 v2, .string v3]) :: L)) := Lib.hid (by
    have h1 := ((h.alloc [.int .i64 3, .int .i64 m, .int .i64 k1, .int .i64 k2, .string k3, .int .i64 v1, .int .i64 v2, .string v3] 130).alloc [.int .i64 0, .int .i64 0, .string ⟨#[]⟩, .int .i64 0, .int .i64 0, .string ⟨#[]⟩, .int .i64 0, .int .i64 0, .bool false] 138).alloc [.int .i64 0, .int .i64 0, .string ⟨#[]⟩, .int .i64 0, .int .i64 0, .string ⟨#[]⟩, .int .i64 0, .int .i64 0, .bool false] 138
    simpa using h1)
  have HC0 : Hid (Chg (fun b => w0.heap.size ≤ b ∧ ¬ Zp b) w (((w.alloc (.cells #[.int .i64 3, .int .i64 m, .int .i64 k1, .int .i64 k2, .string k3, .int .i64 v1, .int .i64 v2, .string v3] 130)).alloc (.cells #[.int .i64 0, .int .i64 0, .string ⟨#[]⟩, .int .i64 0, .int .i64 0, .string ⟨#[]⟩, .int .i64 0, .int .i64 0, .bool false] 138)).alloc (.cells #[.int .i64 0, .int .i64 0, .string ⟨#[]⟩, .int .i64 0, .int .i64 0, .string ⟨#[]⟩, .int .i64 0, .int .i64 0, .bool false] 138))) := Lib.hid (Chg.ofBelow (by (repeat (first | exact Below.refl _ _ | (refine Below.alloc ?_ (by simp <;> omega) _)))))
  have HLT := Lib.hid (fun c hc => (h.blk (c := c) hc).lt)
  have HW0 := Lib.hid h.bel.size
  have HNB : Hid (∀ c ∈ L, c.1 ≠ w.heap.size + 1 ∧ c.1 ≠ w.heap.size + 1 + 1) := Lib.hid (fun c hc => by have := HLT.out c hc; omega)
  have hne : w.heap.size + 1 ≠ w.heap.size + 1 + 1 := by omega
  have HIX := Lib.hid hi
  clear h hi
  go_enter Try.func86, Try.ntmps86
  go_upto_region 3 with fail
  obtain ⟨w1, hw1⟩ : ∃ W, W = (((w.alloc (.cells #[.int .i64 3, .int .i64 m, .int .i64 k1, .int .i64 k2, .string k3, .int .i64 v1, .int .i64 v2, .string v3] 130)).alloc (.cells #[.int .i64 0, .int .i64 0, .string ⟨#[]⟩, .int .i64 0, .int .i64 0, .string ⟨#[]⟩, .int .i64 0, .int .i64 0, .bool false] 138)).alloc (.cells #[.int .i64 0, .int .i64 0, .string ⟨#[]⟩, .int .i64 0, .int .i64 0, .string ⟨#[]⟩, .int .i64 0, .int .i64 0, .bool false] 138)) := ⟨_, rfl⟩
  rw [← hw1] at D0 HC0 ⊢
  clear hw1
  have hbx := D0.out.blk (c := (w.heap.size, 130, [.int .i64 3, .int .i64 m, .int .i64 k1, .int .i64 k2, .string k3, .int .i64 v1, .int .i64 v2, .string v3])) (by simp)
  have p0 := hbx.cell 0 _ rfl
  have p1 := hbx.cell 1 _ rfl
  have p2 := hbx.cell 2 _ rfl
  have p3 := hbx.cell 3 _ rfl
  have p4 := hbx.cell 4 _ rfl
  have p5 := hbx.cell 5 _ rfl
  have p6 := hbx.cell 6 _ rfl
  have p7 := hbx.cell 7 _ rfl
  clear hbx
  have HCA := Lib.hid (by have := D0.out.next HIX.out ⟨k1, k2, k3⟩ hx (by omega); rw [ho] at this; exact this)
  clear hx hN
  go_wp2_with (go_at_call 73; (with_reducible refine HCA.out.mono ?_); rintro e w2 ⟨rfl, hb⟩; have hh := True.intro; have hch := True.intro; have D2 := Lib.hid ((D0.out.below hb).mono (Nat.le_succ N)); have HC2 := Lib.hid (HC0.out.trans (Chg.ofBelow (B := fun b => w0.heap.size ≤ b ∧ ¬ Zp b) hb) (fun b _ h => h)); clear hb; clear hh hch; have G4 := Lib.hid (D2.out.blk (c := ((w.heap.size + 1), 138, [.int .i64 0, .int .i64 0, .string ⟨#[]⟩, .int .i64 0, .int .i64 0, .string ⟨#[]⟩, .int .i64 0, .int .i64 0, .bool false])) (by simp)); have G5 := Lib.hid (D2.out.blk (c := ((w.heap.size + 1 + 1), 138, [.int .i64 0, .int .i64 0, .string ⟨#[]⟩, .int .i64 0, .int .i64 0, .string ⟨#[]⟩, .int .i64 0, .int .i64 0, .bool false])) (by simp)); have x0 := G4.out.cell 0 _ rfl; have f0 := G4.out.frozen 0; have y0 := G5.out.cell 0 _ rfl; have fz0 := G5.out.frozen 0; have x1 := G4.out.cell 1 _ rfl; have f1 := G4.out.frozen 1; have y1 := G5.out.cell 1 _ rfl; have fz1 := G5.out.frozen 1; have x2 := G4.out.cell 2 _ rfl; have f2 := G4.out.frozen 2; have y2 := G5.out.cell 2 _ rfl; have fz2 := G5.out.frozen 2; have x3 := G4.out.cell 3 _ rfl; have f3 := G4.out.frozen 3; have y3 := G5.out.cell 3 _ rfl; have fz3 := G5.out.frozen 3; have x4 := G4.out.cell 4 _ rfl; have f4 := G4.out.frozen 4; have y4 := G5.out.cell 4 _ rfl; have fz4 := G5.out.frozen 4; have x5 := G4.out.cell 5 _ rfl; have f5 := G4.out.frozen 5; have y5 := G5.out.cell 5 _ rfl; have fz5 := G5.out.frozen 5; have x6 := G4.out.cell 6 _ rfl; have f6 := G4.out.frozen 6; have y6 := G5.out.cell 6 _ rfl; have fz6 := G5.out.frozen 6; have x7 := G4.out.cell 7 _ rfl; have f7 := G4.out.frozen 7; have y7 := G5.out.cell 7 _ rfl; have fz7 := G5.out.frozen 7; have x8 := G4.out.cell 8 _ rfl; have f8 := G4.out.frozen 8; have y8 := G5.out.cell 8 _ rfl; have fz8 := G5.out.frozen 8)
  refine bodyPost_ret (results_ansT (x := ⟨⟨r1, r2, r3⟩, ⟨g1, g2, g3⟩, 0, e0, false⟩) rfl _ rfl (Blk.store9 ((((((((G4.out.setOther hne _).setOther hne _).setOther hne _).setOther hne _).setOther hne _).setOther hne _).setOther hne _)) rfl _ _ _ _ _ _ _ _ _)) rfl ⟨rfl, D2.out.boxes (C := fun b => b = w.heap.size + 1 ∨ b = w.heap.size + 1 + 1) (fun c hc => List.mem_cons_of_mem _ (List.mem_cons_of_mem _ (List.mem_cons_of_mem _ hc))) (fun b hb => ?_) ?_, ?_⟩
  · have h0 := HW0.out
    rcases hb with rfl | rfl
    · exact ⟨by omega, ⟨((w.heap.size + 1), 138, [.int .i64 0, .int .i64 0, .string ⟨#[]⟩, .int .i64 0, .int .i64 0, .string ⟨#[]⟩, .int .i64 0, .int .i64 0, .bool false]), by simp, rfl⟩, fun c hc => (HNB.out c hc).1⟩
    · exact ⟨by omega, ⟨((w.heap.size + 1 + 1), 138, [.int .i64 0, .int .i64 0, .string ⟨#[]⟩, .int .i64 0, .int .i64 0, .string ⟨#[]⟩, .int .i64 0, .int .i64 0, .bool false]), by simp, rfl⟩, fun c hc => (HNB.out c hc).2⟩
  · (repeat (with_reducible refine Chg.setCell ?_ (fun _ => by first | exact .inl rfl | exact .inr rfl) _))
    exact Chg.refl _ _
  · (repeat (with_reducible refine Chg.setCell ?_ (fun h => absurd h (by simp <;> omega)) _))
    exact HC2.out
set_option maxHeartbeats 8000000 in
set_option maxRecDepth 20000 in
theorem tdo_4 (h : TL w0 w Zp q D F T N tabs L) (hi : tabs[i]? = some (tb, mp, s)) (hN : N ≤ 99999) (m k1 k2 : Int) (k3 : ByteArray) (v1 v2 : Int) (v3 : ByteArray) (hx : k3.size ≤ maxLen) (g1 g2 : Int) (g3 : ByteArray) (ho : tatM s m = ⟨g1, g2, g3⟩) : Calls Try.prog 86 #[.pointer (some ⟨tb, 0, none⟩), .agg #[.int .i64 4, .int .i64 m, .int .i64 k1, .int .i64 k2, .string k3, .int .i64 v1, .int .i64 v2, .string v3]] w fun e w' =>
    e = .returned (⟨Val.nil, ⟨g1, g2, g3⟩, 0, 0, false⟩ : AnsT).a ∧ TL w0 w' Zp q D F (T) (N + 1) (tabs) L ∧ Chg (fun b => w0.heap.size ≤ b ∧ ¬ Zp b) w w' := by
  have D0 : Hid (TL w0 (((w.alloc (.cells #[.int .i64 4, .int .i64 m, .int .i64 k1, .int .i64 k2, .string k3, .int .i64 v1, .int .i64 v2, .string v3] 130)).alloc (.cells #[.int .i64 0, .int .i64 0, .string ⟨#[]⟩, .int .i64 0, .int .i64 0, .string ⟨#[]⟩, .int .i64 0, .int .i64 0, .bool false] 138)).alloc (.cells #[.int .i64 0, .int .i64 0, .string ⟨#[]⟩, .int .i64 0, .int .i64 0, .string ⟨#[]⟩, .int .i64 0, .int .i64 0, .bool false] 138)) Zp q D F T N tabs (((w.heap.size + 1 + 1), 138, [.int .i64 0, .int .i64 0, .string ⟨#[]⟩, .int .i64 0, .int .i64 0, .string ⟨#[]⟩, .int .i64 0, .int .i64 0, .bool false]) :: ((w.heap.size + 1), 138, [.int .i64 0, .int .i64 0, .string ⟨#[]⟩, .int .i64 0, .int .i64 0, .string ⟨#[]⟩, .int .i64 0, .int .i64 0, .bool false]) :: (w.heap.size, 130, [.int .i64 4, .int .i64 m, .int .i64 k1, .int .i64 k2, .string k3, .int .i64 v1, .int .i64 v2, .string v3]) :: L)) := Lib.hid (by
    have h1 := ((h.alloc [.int .i64 4, .int .i64 m, .int .i64 k1, .int .i64 k2, .string k3, .int .i64 v1, .int .i64 v2, .string v3] 130).alloc [.int .i64 0, .int .i64 0, .string ⟨#[]⟩, .int .i64 0, .int .i64 0, .string ⟨#[]⟩, .int .i64 0, .int .i64 0, .bool false] 138).alloc [.int .i64 0, .int .i64 0, .string ⟨#[]⟩, .int .i64 0, .int .i64 0, .string ⟨#[]⟩, .int .i64 0, .int .i64 0, .bool false] 138
    simpa using h1)
  have HC0 : Hid (Chg (fun b => w0.heap.size ≤ b ∧ ¬ Zp b) w (((w.alloc (.cells #[.int .i64 4, .int .i64 m, .int .i64 k1, .int .i64 k2, .string k3, .int .i64 v1, .int .i64 v2, .string v3] 130)).alloc (.cells #[.int .i64 0, .int .i64 0, .string ⟨#[]⟩, .int .i64 0, .int .i64 0, .string ⟨#[]⟩, .int .i64 0, .int .i64 0, .bool false] 138)).alloc (.cells #[.int .i64 0, .int .i64 0, .string ⟨#[]⟩, .int .i64 0, .int .i64 0, .string ⟨#[]⟩, .int .i64 0, .int .i64 0, .bool false] 138))) := Lib.hid (Chg.ofBelow (by (repeat (first | exact Below.refl _ _ | (refine Below.alloc ?_ (by simp <;> omega) _)))))
  have HLT := Lib.hid (fun c hc => (h.blk (c := c) hc).lt)
  have HW0 := Lib.hid h.bel.size
  have HNB : Hid (∀ c ∈ L, c.1 ≠ w.heap.size + 1 ∧ c.1 ≠ w.heap.size + 1 + 1) := Lib.hid (fun c hc => by have := HLT.out c hc; omega)
  have hne : w.heap.size + 1 ≠ w.heap.size + 1 + 1 := by omega
  have HIX := Lib.hid hi
  clear h hi
  go_enter Try.func86, Try.ntmps86
  go_upto_region 3 with fail
  obtain ⟨w1, hw1⟩ : ∃ W, W = (((w.alloc (.cells #[.int .i64 4, .int .i64 m, .int .i64 k1, .int .i64 k2, .string k3, .int .i64 v1, .int .i64 v2, .string v3] 130)).alloc (.cells #[.int .i64 0, .int .i64 0, .string ⟨#[]⟩, .int .i64 0, .int .i64 0, .string ⟨#[]⟩, .int .i64 0, .int .i64 0, .bool false] 138)).alloc (.cells #[.int .i64 0, .int .i64 0, .string ⟨#[]⟩, .int .i64 0, .int .i64 0, .string ⟨#[]⟩, .int .i64 0, .int .i64 0, .bool false] 138)) := ⟨_, rfl⟩
  rw [← hw1] at D0 HC0 ⊢
  clear hw1
  have hbx := D0.out.blk (c := (w.heap.size, 130, [.int .i64 4, .int .i64 m, .int .i64 k1, .int .i64 k2, .string k3, .int .i64 v1, .int .i64 v2, .string v3])) (by simp)
  have p0 := hbx.cell 0 _ rfl
  have p1 := hbx.cell 1 _ rfl
  have p2 := hbx.cell 2 _ rfl
  have p3 := hbx.cell 3 _ rfl
  have p4 := hbx.cell 4 _ rfl
  have p5 := hbx.cell 5 _ rfl
  have p6 := hbx.cell 6 _ rfl
  have p7 := hbx.cell 7 _ rfl
  clear hbx
  have HCA := Lib.hid (by have := D0.out.slotAt HIX.out m; rw [ho] at this; exact this)
  clear hx hN
  go_wp2_with (go_at_call 66; (with_reducible refine HCA.out.mono ?_); rintro e w2 ⟨rfl, hb⟩; have hh := True.intro; have hch := True.intro; have D2 := Lib.hid ((D0.out.below hb).mono (Nat.le_succ N)); have HC2 := Lib.hid (HC0.out.trans (Chg.ofBelow (B := fun b => w0.heap.size ≤ b ∧ ¬ Zp b) hb) (fun b _ h => h)); clear hb; clear hh hch; have G4 := Lib.hid (D2.out.blk (c := ((w.heap.size + 1), 138, [.int .i64 0, .int .i64 0, .string ⟨#[]⟩, .int .i64 0, .int .i64 0, .string ⟨#[]⟩, .int .i64 0, .int .i64 0, .bool false])) (by simp)); have G5 := Lib.hid (D2.out.blk (c := ((w.heap.size + 1 + 1), 138, [.int .i64 0, .int .i64 0, .string ⟨#[]⟩, .int .i64 0, .int .i64 0, .string ⟨#[]⟩, .int .i64 0, .int .i64 0, .bool false])) (by simp)); have x0 := G4.out.cell 0 _ rfl; have f0 := G4.out.frozen 0; have y0 := G5.out.cell 0 _ rfl; have fz0 := G5.out.frozen 0; have x1 := G4.out.cell 1 _ rfl; have f1 := G4.out.frozen 1; have y1 := G5.out.cell 1 _ rfl; have fz1 := G5.out.frozen 1; have x2 := G4.out.cell 2 _ rfl; have f2 := G4.out.frozen 2; have y2 := G5.out.cell 2 _ rfl; have fz2 := G5.out.frozen 2; have x3 := G4.out.cell 3 _ rfl; have f3 := G4.out.frozen 3; have y3 := G5.out.cell 3 _ rfl; have fz3 := G5.out.frozen 3; have x4 := G4.out.cell 4 _ rfl; have f4 := G4.out.frozen 4; have y4 := G5.out.cell 4 _ rfl; have fz4 := G5.out.frozen 4; have x5 := G4.out.cell 5 _ rfl; have f5 := G4.out.frozen 5; have y5 := G5.out.cell 5 _ rfl; have fz5 := G5.out.frozen 5; have x6 := G4.out.cell 6 _ rfl; have f6 := G4.out.frozen 6; have y6 := G5.out.cell 6 _ rfl; have fz6 := G5.out.frozen 6; have x7 := G4.out.cell 7 _ rfl; have f7 := G4.out.frozen 7; have y7 := G5.out.cell 7 _ rfl; have fz7 := G5.out.frozen 7; have x8 := G4.out.cell 8 _ rfl; have f8 := G4.out.frozen 8; have y8 := G5.out.cell 8 _ rfl; have fz8 := G5.out.frozen 8)
  refine bodyPost_ret (results_ansT (x := ⟨Val.nil, ⟨g1, g2, g3⟩, 0, 0, false⟩) rfl _ rfl (Blk.store9 (((((G4.out.setOther hne _).setOther hne _).setOther hne _).setOther hne _)) rfl _ _ _ _ _ _ _ _ _)) rfl ⟨rfl, D2.out.boxes (C := fun b => b = w.heap.size + 1 ∨ b = w.heap.size + 1 + 1) (fun c hc => List.mem_cons_of_mem _ (List.mem_cons_of_mem _ (List.mem_cons_of_mem _ hc))) (fun b hb => ?_) ?_, ?_⟩
  · have h0 := HW0.out
    rcases hb with rfl | rfl
    · exact ⟨by omega, ⟨((w.heap.size + 1), 138, [.int .i64 0, .int .i64 0, .string ⟨#[]⟩, .int .i64 0, .int .i64 0, .string ⟨#[]⟩, .int .i64 0, .int .i64 0, .bool false]), by simp, rfl⟩, fun c hc => (HNB.out c hc).1⟩
    · exact ⟨by omega, ⟨((w.heap.size + 1 + 1), 138, [.int .i64 0, .int .i64 0, .string ⟨#[]⟩, .int .i64 0, .int .i64 0, .string ⟨#[]⟩, .int .i64 0, .int .i64 0, .bool false]), by simp, rfl⟩, fun c hc => (HNB.out c hc).2⟩
  · (repeat (with_reducible refine Chg.setCell ?_ (fun _ => by first | exact .inl rfl | exact .inr rfl) _))
    exact Chg.refl _ _
  · (repeat (with_reducible refine Chg.setCell ?_ (fun h => absurd h (by simp <;> omega)) _))
    exact HC2.out
set_option maxHeartbeats 8000000 in
set_option maxRecDepth 20000 in
theorem tdo_5 (h : TL w0 w Zp q D F T N tabs L) (hi : tabs[i]? = some (tb, mp, s)) (hN : N ≤ 99999) (m k1 k2 : Int) (k3 : ByteArray) (v1 v2 : Int) (v3 : ByteArray) (hx : k3.size ≤ maxLen) (b : Bool) (ho : hasS s m = b) : Calls Try.prog 86 #[.pointer (some ⟨tb, 0, none⟩), .agg #[.int .i64 5, .int .i64 m, .int .i64 k1, .int .i64 k2, .string k3, .int .i64 v1, .int .i64 v2, .string v3]] w fun e w' =>
    e = .returned (⟨Val.nil, Val.nil, 0, 0, b⟩ : AnsT).a ∧ TL w0 w' Zp q D F (T) (N + 1) (tabs.set i (tb, mp, tputM s m ⟨v1, v2, v3⟩)) L ∧ Chg (fun b => w0.heap.size ≤ b ∧ ¬ Zp b) w w' := by
  have D0 : Hid (TL w0 (((w.alloc (.cells #[.int .i64 5, .int .i64 m, .int .i64 k1, .int .i64 k2, .string k3, .int .i64 v1, .int .i64 v2, .string v3] 130)).alloc (.cells #[.int .i64 0, .int .i64 0, .string ⟨#[]⟩, .int .i64 0, .int .i64 0, .string ⟨#[]⟩, .int .i64 0, .int .i64 0, .bool false] 138)).alloc (.cells #[.int .i64 0, .int .i64 0, .string ⟨#[]⟩, .int .i64 0, .int .i64 0, .string ⟨#[]⟩, .int .i64 0, .int .i64 0, .bool false] 138)) Zp q D F T N tabs (((w.heap.size + 1 + 1), 138, [.int .i64 0, .int .i64 0, .string ⟨#[]⟩, .int .i64 0, .int .i64 0, .string ⟨#[]⟩, .int .i64 0, .int .i64 0, .bool false]) :: ((w.heap.size + 1), 138, [.int .i64 0, .int .i64 0, .string ⟨#[]⟩, .int .i64 0, .int .i64 0, .string ⟨#[]⟩, .int .i64 0, .int .i64 0, .bool false]) :: (w.heap.size, 130, [.int .i64 5, .int .i64 m, .int .i64 k1, .int .i64 k2, .string k3, .int .i64 v1, .int .i64 v2, .string v3]) :: L)) := Lib.hid (by
    have h1 := ((h.alloc [.int .i64 5, .int .i64 m, .int .i64 k1, .int .i64 k2, .string k3, .int .i64 v1, .int .i64 v2, .string v3] 130).alloc [.int .i64 0, .int .i64 0, .string ⟨#[]⟩, .int .i64 0, .int .i64 0, .string ⟨#[]⟩, .int .i64 0, .int .i64 0, .bool false] 138).alloc [.int .i64 0, .int .i64 0, .string ⟨#[]⟩, .int .i64 0, .int .i64 0, .string ⟨#[]⟩, .int .i64 0, .int .i64 0, .bool false] 138
    simpa using h1)
  have HC0 : Hid (Chg (fun b => w0.heap.size ≤ b ∧ ¬ Zp b) w (((w.alloc (.cells #[.int .i64 5, .int .i64 m, .int .i64 k1, .int .i64 k2, .string k3, .int .i64 v1, .int .i64 v2, .string v3] 130)).alloc (.cells #[.int .i64 0, .int .i64 0, .string ⟨#[]⟩, .int .i64 0, .int .i64 0, .string ⟨#[]⟩, .int .i64 0, .int .i64 0, .bool false] 138)).alloc (.cells #[.int .i64 0, .int .i64 0, .string ⟨#[]⟩, .int .i64 0, .int .i64 0, .string ⟨#[]⟩, .int .i64 0, .int .i64 0, .bool false] 138))) := Lib.hid (Chg.ofBelow (by (repeat (first | exact Below.refl _ _ | (refine Below.alloc ?_ (by simp <;> omega) _)))))
  have HLT := Lib.hid (fun c hc => (h.blk (c := c) hc).lt)
  have HW0 := Lib.hid h.bel.size
  have HNB : Hid (∀ c ∈ L, c.1 ≠ w.heap.size + 1 ∧ c.1 ≠ w.heap.size + 1 + 1) := Lib.hid (fun c hc => by have := HLT.out c hc; omega)
  have hne : w.heap.size + 1 ≠ w.heap.size + 1 + 1 := by omega
  have HIX := Lib.hid hi
  clear h hi
  go_enter Try.func86, Try.ntmps86
  go_upto_region 3 with fail
  obtain ⟨w1, hw1⟩ : ∃ W, W = (((w.alloc (.cells #[.int .i64 5, .int .i64 m, .int .i64 k1, .int .i64 k2, .string k3, .int .i64 v1, .int .i64 v2, .string v3] 130)).alloc (.cells #[.int .i64 0, .int .i64 0, .string ⟨#[]⟩, .int .i64 0, .int .i64 0, .string ⟨#[]⟩, .int .i64 0, .int .i64 0, .bool false] 138)).alloc (.cells #[.int .i64 0, .int .i64 0, .string ⟨#[]⟩, .int .i64 0, .int .i64 0, .string ⟨#[]⟩, .int .i64 0, .int .i64 0, .bool false] 138)) := ⟨_, rfl⟩
  rw [← hw1] at D0 HC0 ⊢
  clear hw1
  have hbx := D0.out.blk (c := (w.heap.size, 130, [.int .i64 5, .int .i64 m, .int .i64 k1, .int .i64 k2, .string k3, .int .i64 v1, .int .i64 v2, .string v3])) (by simp)
  have p0 := hbx.cell 0 _ rfl
  have p1 := hbx.cell 1 _ rfl
  have p2 := hbx.cell 2 _ rfl
  have p3 := hbx.cell 3 _ rfl
  have p4 := hbx.cell 4 _ rfl
  have p5 := hbx.cell 5 _ rfl
  have p6 := hbx.cell 6 _ rfl
  have p7 := hbx.cell 7 _ rfl
  clear hbx
  have HCA := Lib.hid (by have := D0.out.put HIX.out m ⟨v1, v2, v3⟩; rw [ho] at this; exact this)
  clear hx hN
  go_wp2_with (go_at_call 68; (with_reducible refine HCA.out.mono ?_); rintro e w2 ⟨rfl, hh, hch⟩; have D2 := Lib.hid (hh.mono (Nat.le_succ N)); have HC2 := Lib.hid (HC0.out.trans hch (fun b _ h => h)); clear hh hch; have G4 := Lib.hid (D2.out.blk (c := ((w.heap.size + 1), 138, [.int .i64 0, .int .i64 0, .string ⟨#[]⟩, .int .i64 0, .int .i64 0, .string ⟨#[]⟩, .int .i64 0, .int .i64 0, .bool false])) (by simp)); have G5 := Lib.hid (D2.out.blk (c := ((w.heap.size + 1 + 1), 138, [.int .i64 0, .int .i64 0, .string ⟨#[]⟩, .int .i64 0, .int .i64 0, .string ⟨#[]⟩, .int .i64 0, .int .i64 0, .bool false])) (by simp)); have x0 := G4.out.cell 0 _ rfl; have f0 := G4.out.frozen 0; have y0 := G5.out.cell 0 _ rfl; have fz0 := G5.out.frozen 0; have x1 := G4.out.cell 1 _ rfl; have f1 := G4.out.frozen 1; have y1 := G5.out.cell 1 _ rfl; have fz1 := G5.out.frozen 1; have x2 := G4.out.cell 2 _ rfl; have f2 := G4.out.frozen 2; have y2 := G5.out.cell 2 _ rfl; have fz2 := G5.out.frozen 2; have x3 := G4.out.cell 3 _ rfl; have f3 := G4.out.frozen 3; have y3 := G5.out.cell 3 _ rfl; have fz3 := G5.out.frozen 3; have x4 := G4.out.cell 4 _ rfl; have f4 := G4.out.frozen 4; have y4 := G5.out.cell 4 _ rfl; have fz4 := G5.out.frozen 4; have x5 := G4.out.cell 5 _ rfl; have f5 := G4.out.frozen 5; have y5 := G5.out.cell 5 _ rfl; have fz5 := G5.out.frozen 5; have x6 := G4.out.cell 6 _ rfl; have f6 := G4.out.frozen 6; have y6 := G5.out.cell 6 _ rfl; have fz6 := G5.out.frozen 6; have x7 := G4.out.cell 7 _ rfl; have f7 := G4.out.frozen 7; have y7 := G5.out.cell 7 _ rfl; have fz7 := G5.out.frozen 7; have x8 := G4.out.cell 8 _ rfl; have f8 := G4.out.frozen 8; have y8 := G5.out.cell 8 _ rfl; have fz8 := G5.out.frozen 8)
  refine bodyPost_ret (results_ansT (x := ⟨Val.nil, Val.nil, 0, 0, b⟩) rfl _ rfl (Blk.store9 (((G4.out.setOther hne _).setOther hne _)) rfl _ _ _ _ _ _ _ _ _)) rfl ⟨rfl, D2.out.boxes (C := fun b => b = w.heap.size + 1 ∨ b = w.heap.size + 1 + 1) (fun c hc => List.mem_cons_of_mem _ (List.mem_cons_of_mem _ (List.mem_cons_of_mem _ hc))) (fun b hb => ?_) ?_, ?_⟩
  · have h0 := HW0.out
    rcases hb with rfl | rfl
    · exact ⟨by omega, ⟨((w.heap.size + 1), 138, [.int .i64 0, .int .i64 0, .string ⟨#[]⟩, .int .i64 0, .int .i64 0, .string ⟨#[]⟩, .int .i64 0, .int .i64 0, .bool false]), by simp, rfl⟩, fun c hc => (HNB.out c hc).1⟩
    · exact ⟨by omega, ⟨((w.heap.size + 1 + 1), 138, [.int .i64 0, .int .i64 0, .string ⟨#[]⟩, .int .i64 0, .int .i64 0, .string ⟨#[]⟩, .int .i64 0, .int .i64 0, .bool false]), by simp, rfl⟩, fun c hc => (HNB.out c hc).2⟩
  · (repeat (with_reducible refine Chg.setCell ?_ (fun _ => by first | exact .inl rfl | exact .inr rfl) _))
    exact Chg.refl _ _
  · (repeat (with_reducible refine Chg.setCell ?_ (fun h => absurd h (by simp <;> omega)) _))
    exact HC2.out
set_option maxHeartbeats 8000000 in
set_option maxRecDepth 20000 in
theorem tdo_6 (h : TL w0 w Zp q D F T N tabs L) (hi : tabs[i]? = some (tb, mp, s)) (hN : N ≤ 99999) (m k1 k2 : Int) (k3 : ByteArray) (v1 v2 : Int) (v3 : ByteArray) (hx : k3.size ≤ maxLen) (jn : Int) (b : Bool) (ho : ((slotK T s k3).getD 0 : Nat) = jn ∧ (slotK T s k3).isSome = b) : Calls Try.prog 86 #[.pointer (some ⟨tb, 0, none⟩), .agg #[.int .i64 6, .int .i64 m, .int .i64 k1, .int .i64 k2, .string k3, .int .i64 v1, .int .i64 v2, .string v3]] w fun e w' =>
    e = .returned (⟨Val.nil, Val.nil, jn, 0, b⟩ : AnsT).a ∧ TL w0 w' Zp q D F (T) (N + 1) (tabs) L ∧ Chg (fun b => w0.heap.size ≤ b ∧ ¬ Zp b) w w' := by
  have D0 : Hid (TL w0 (((w.alloc (.cells #[.int .i64 6, .int .i64 m, .int .i64 k1, .int .i64 k2, .string k3, .int .i64 v1, .int .i64 v2, .string v3] 130)).alloc (.cells #[.int .i64 0, .int .i64 0, .string ⟨#[]⟩, .int .i64 0, .int .i64 0, .string ⟨#[]⟩, .int .i64 0, .int .i64 0, .bool false] 138)).alloc (.cells #[.int .i64 0, .int .i64 0, .string ⟨#[]⟩, .int .i64 0, .int .i64 0, .string ⟨#[]⟩, .int .i64 0, .int .i64 0, .bool false] 138)) Zp q D F T N tabs (((w.heap.size + 1 + 1), 138, [.int .i64 0, .int .i64 0, .string ⟨#[]⟩, .int .i64 0, .int .i64 0, .string ⟨#[]⟩, .int .i64 0, .int .i64 0, .bool false]) :: ((w.heap.size + 1), 138, [.int .i64 0, .int .i64 0, .string ⟨#[]⟩, .int .i64 0, .int .i64 0, .string ⟨#[]⟩, .int .i64 0, .int .i64 0, .bool false]) :: (w.heap.size, 130, [.int .i64 6, .int .i64 m, .int .i64 k1, .int .i64 k2, .string k3, .int .i64 v1, .int .i64 v2, .string v3]) :: L)) := Lib.hid (by
    have h1 := ((h.alloc [.int .i64 6, .int .i64 m, .int .i64 k1, .int .i64 k2, .string k3, .int .i64 v1, .int .i64 v2, .string v3] 130).alloc [.int .i64 0, .int .i64 0, .string ⟨#[]⟩, .int .i64 0, .int .i64 0, .string ⟨#[]⟩, .int .i64 0, .int .i64 0, .bool false] 138).alloc [.int .i64 0, .int .i64 0, .string ⟨#[]⟩, .int .i64 0, .int .i64 0, .string ⟨#[]⟩, .int .i64 0, .int .i64 0, .bool false] 138
    simpa using h1)
  have HC0 : Hid (Chg (fun b => w0.heap.size ≤ b ∧ ¬ Zp b) w (((w.alloc (.cells #[.int .i64 6, .int .i64 m, .int .i64 k1, .int .i64 k2, .string k3, .int .i64 v1, .int .i64 v2, .string v3] 130)).alloc (.cells #[.int .i64 0, .int .i64 0, .string ⟨#[]⟩, .int .i64 0, .int .i64 0, .string ⟨#[]⟩, .int .i64 0, .int .i64 0, .bool false] 138)).alloc (.cells #[.int .i64 0, .int .i64 0, .string ⟨#[]⟩, .int .i64 0, .int .i64 0, .string ⟨#[]⟩, .int .i64 0, .int .i64 0, .bool false] 138))) := Lib.hid (Chg.ofBelow (by (repeat (first | exact Below.refl _ _ | (refine Below.alloc ?_ (by simp <;> omega) _)))))
  have HLT := Lib.hid (fun c hc => (h.blk (c := c) hc).lt)
  have HW0 := Lib.hid h.bel.size
  have HNB : Hid (∀ c ∈ L, c.1 ≠ w.heap.size + 1 ∧ c.1 ≠ w.heap.size + 1 + 1) := Lib.hid (fun c hc => by have := HLT.out c hc; omega)
  have hne : w.heap.size + 1 ≠ w.heap.size + 1 + 1 := by omega
  have HIX := Lib.hid hi
  clear h hi
  go_enter Try.func86, Try.ntmps86
  go_upto_region 3 with fail
  obtain ⟨w1, hw1⟩ : ∃ W, W = (((w.alloc (.cells #[.int .i64 6, .int .i64 m, .int .i64 k1, .int .i64 k2, .string k3, .int .i64 v1, .int .i64 v2, .string v3] 130)).alloc (.cells #[.int .i64 0, .int .i64 0, .string ⟨#[]⟩, .int .i64 0, .int .i64 0, .string ⟨#[]⟩, .int .i64 0, .int .i64 0, .bool false] 138)).alloc (.cells #[.int .i64 0, .int .i64 0, .string ⟨#[]⟩, .int .i64 0, .int .i64 0, .string ⟨#[]⟩, .int .i64 0, .int .i64 0, .bool false] 138)) := ⟨_, rfl⟩
  rw [← hw1] at D0 HC0 ⊢
  clear hw1
  have hbx := D0.out.blk (c := (w.heap.size, 130, [.int .i64 6, .int .i64 m, .int .i64 k1, .int .i64 k2, .string k3, .int .i64 v1, .int .i64 v2, .string v3])) (by simp)
  have p0 := hbx.cell 0 _ rfl
  have p1 := hbx.cell 1 _ rfl
  have p2 := hbx.cell 2 _ rfl
  have p3 := hbx.cell 3 _ rfl
  have p4 := hbx.cell 4 _ rfl
  have p5 := hbx.cell 5 _ rfl
  have p6 := hbx.cell 6 _ rfl
  have p7 := hbx.cell 7 _ rfl
  clear hbx
  have HCA := Lib.hid (by have := D0.out.slot HIX.out k3 hx; rw [ho.1, ho.2] at this; exact this)
  clear hx hN
  go_wp2_with (go_at_call 132; (with_reducible refine HCA.out.mono ?_); rintro e w2 ⟨rfl, hb⟩; have hh := True.intro; have hch := True.intro; have D2 := Lib.hid ((D0.out.below hb).mono (Nat.le_succ N)); have HC2 := Lib.hid (HC0.out.trans (Chg.ofBelow (B := fun b => w0.heap.size ≤ b ∧ ¬ Zp b) hb) (fun b _ h => h)); clear hb; clear hh hch; have G4 := Lib.hid (D2.out.blk (c := ((w.heap.size + 1), 138, [.int .i64 0, .int .i64 0, .string ⟨#[]⟩, .int .i64 0, .int .i64 0, .string ⟨#[]⟩, .int .i64 0, .int .i64 0, .bool false])) (by simp)); have G5 := Lib.hid (D2.out.blk (c := ((w.heap.size + 1 + 1), 138, [.int .i64 0, .int .i64 0, .string ⟨#[]⟩, .int .i64 0, .int .i64 0, .string ⟨#[]⟩, .int .i64 0, .int .i64 0, .bool false])) (by simp)); have x0 := G4.out.cell 0 _ rfl; have f0 := G4.out.frozen 0; have y0 := G5.out.cell 0 _ rfl; have fz0 := G5.out.frozen 0; have x1 := G4.out.cell 1 _ rfl; have f1 := G4.out.frozen 1; have y1 := G5.out.cell 1 _ rfl; have fz1 := G5.out.frozen 1; have x2 := G4.out.cell 2 _ rfl; have f2 := G4.out.frozen 2; have y2 := G5.out.cell 2 _ rfl; have fz2 := G5.out.frozen 2; have x3 := G4.out.cell 3 _ rfl; have f3 := G4.out.frozen 3; have y3 := G5.out.cell 3 _ rfl; have fz3 := G5.out.frozen 3; have x4 := G4.out.cell 4 _ rfl; have f4 := G4.out.frozen 4; have y4 := G5.out.cell 4 _ rfl; have fz4 := G5.out.frozen 4; have x5 := G4.out.cell 5 _ rfl; have f5 := G4.out.frozen 5; have y5 := G5.out.cell 5 _ rfl; have fz5 := G5.out.frozen 5; have x6 := G4.out.cell 6 _ rfl; have f6 := G4.out.frozen 6; have y6 := G5.out.cell 6 _ rfl; have fz6 := G5.out.frozen 6; have x7 := G4.out.cell 7 _ rfl; have f7 := G4.out.frozen 7; have y7 := G5.out.cell 7 _ rfl; have fz7 := G5.out.frozen 7; have x8 := G4.out.cell 8 _ rfl; have f8 := G4.out.frozen 8; have y8 := G5.out.cell 8 _ rfl; have fz8 := G5.out.frozen 8)
  refine bodyPost_ret (results_ansT (x := ⟨Val.nil, Val.nil, jn, 0, b⟩) rfl _ rfl (Blk.store9 ((((G4.out.setOther hne _).setOther hne _).setOther hne _)) rfl _ _ _ _ _ _ _ _ _)) rfl ⟨rfl, D2.out.boxes (C := fun b => b = w.heap.size + 1 ∨ b = w.heap.size + 1 + 1) (fun c hc => List.mem_cons_of_mem _ (List.mem_cons_of_mem _ (List.mem_cons_of_mem _ hc))) (fun b hb => ?_) ?_, ?_⟩
  · have h0 := HW0.out
    rcases hb with rfl | rfl
    · exact ⟨by omega, ⟨((w.heap.size + 1), 138, [.int .i64 0, .int .i64 0, .string ⟨#[]⟩, .int .i64 0, .int .i64 0, .string ⟨#[]⟩, .int .i64 0, .int .i64 0, .bool false]), by simp, rfl⟩, fun c hc => (HNB.out c hc).1⟩
    · exact ⟨by omega, ⟨((w.heap.size + 1 + 1), 138, [.int .i64 0, .int .i64 0, .string ⟨#[]⟩, .int .i64 0, .int .i64 0, .string ⟨#[]⟩, .int .i64 0, .int .i64 0, .bool false]), by simp, rfl⟩, fun c hc => (HNB.out c hc).2⟩
  · (repeat (with_reducible refine Chg.setCell ?_ (fun _ => by first | exact .inl rfl | exact .inr rfl) _))
    exact Chg.refl _ _
  · (repeat (with_reducible refine Chg.setCell ?_ (fun h => absurd h (by simp <;> omega)) _))
    exact HC2.out
set_option maxHeartbeats 8000000 in
set_option maxRecDepth 20000 in
theorem tdo_0 (h : TL w0 w Zp q D F T N tabs L) (hi : tabs[i]? = some (tb, mp, s)) (hN : N ≤ 99999) (c m k1 k2 : Int) (k3 : ByteArray) (v1 v2 : Int) (v3 : ByteArray) (hx : k3.size ≤ maxLen) (h1 : (c == 1) = false) (h2 : (c == 2) = false) (h3 : (c == 3) = false) (h4 : (c == 4) = false) (h5 : (c == 5) = false) (h6 : (c == 6) = false) : Calls Try.prog 86 #[.pointer (some ⟨tb, 0, none⟩), .agg #[.int .i64 c, .int .i64 m, .int .i64 k1, .int .i64 k2, .string k3, .int .i64 v1, .int .i64 v2, .string v3]] w fun e w' =>
    e = .returned (⟨Val.nil, Val.nil, 0, 0, false⟩ : AnsT).a ∧ TL w0 w' Zp q D F (T) (N + 1) (tabs) L ∧ Chg (fun b => w0.heap.size ≤ b ∧ ¬ Zp b) w w' := by
  have D0 : Hid (TL w0 (((w.alloc (.cells #[.int .i64 c, .int .i64 m, .int .i64 k1, .int .i64 k2, .string k3, .int .i64 v1, .int .i64 v2, .string v3] 130)).alloc (.cells #[.int .i64 0, .int .i64 0, .string ⟨#[]⟩, .int .i64 0, .int .i64 0, .string ⟨#[]⟩, .int .i64 0, .int .i64 0, .bool false] 138)).alloc (.cells #[.int .i64 0, .int .i64 0, .string ⟨#[]⟩, .int .i64 0, .int .i64 0, .string ⟨#[]⟩, .int .i64 0, .int .i64 0, .bool false] 138)) Zp q D F T N tabs (((w.heap.size + 1 + 1), 138, [.int .i64 0, .int .i64 0, .string ⟨#[]⟩, .int .i64 0, .int .i64 0, .string ⟨#[]⟩, .int .i64 0, .int .i64 0, .bool false]) :: ((w.heap.size + 1), 138, [.int .i64 0, .int .i64 0, .string ⟨#[]⟩, .int .i64 0, .int .i64 0, .string ⟨#[]⟩, .int .i64 0, .int .i64 0, .bool false]) :: (w.heap.size, 130, [.int .i64 c, .int .i64 m, .int .i64 k1, .int .i64 k2, .string k3, .int .i64 v1, .int .i64 v2, .string v3]) :: L)) := Lib.hid (by
    have h1 := ((h.alloc [.int .i64 c, .int .i64 m, .int .i64 k1, .int .i64 k2, .string k3, .int .i64 v1, .int .i64 v2, .string v3] 130).alloc [.int .i64 0, .int .i64 0, .string ⟨#[]⟩, .int .i64 0, .int .i64 0, .string ⟨#[]⟩, .int .i64 0, .int .i64 0, .bool false] 138).alloc [.int .i64 0, .int .i64 0, .string ⟨#[]⟩, .int .i64 0, .int .i64 0, .string ⟨#[]⟩, .int .i64 0, .int .i64 0, .bool false] 138
    simpa using h1)
  have HC0 : Hid (Chg (fun b => w0.heap.size ≤ b ∧ ¬ Zp b) w (((w.alloc (.cells #[.int .i64 c, .int .i64 m, .int .i64 k1, .int .i64 k2, .string k3, .int .i64 v1, .int .i64 v2, .string v3] 130)).alloc (.cells #[.int .i64 0, .int .i64 0, .string ⟨#[]⟩, .int .i64 0, .int .i64 0, .string ⟨#[]⟩, .int .i64 0, .int .i64 0, .bool false] 138)).alloc (.cells #[.int .i64 0, .int .i64 0, .string ⟨#[]⟩, .int .i64 0, .int .i64 0, .string ⟨#[]⟩, .int .i64 0, .int .i64 0, .bool false] 138))) := Lib.hid (Chg.ofBelow (by (repeat (first | exact Below.refl _ _ | (refine Below.alloc ?_ (by simp <;> omega) _)))))
  have HLT := Lib.hid (fun c hc => (h.blk (c := c) hc).lt)
  have HW0 := Lib.hid h.bel.size
  have HNB : Hid (∀ c ∈ L, c.1 ≠ w.heap.size + 1 ∧ c.1 ≠ w.heap.size + 1 + 1) := Lib.hid (fun c hc => by have := HLT.out c hc; omega)
  have hne : w.heap.size + 1 ≠ w.heap.size + 1 + 1 := by omega
  have HIX := Lib.hid hi
  clear h hi
  go_enter Try.func86, Try.ntmps86
  go_upto_region 3 with fail
  obtain ⟨w1, hw1⟩ : ∃ W, W = (((w.alloc (.cells #[.int .i64 c, .int .i64 m, .int .i64 k1, .int .i64 k2, .string k3, .int .i64 v1, .int .i64 v2, .string v3] 130)).alloc (.cells #[.int .i64 0, .int .i64 0, .string ⟨#[]⟩, .int .i64 0, .int .i64 0, .string ⟨#[]⟩, .int .i64 0, .int .i64 0, .bool false] 138)).alloc (.cells #[.int .i64 0, .int .i64 0, .string ⟨#[]⟩, .int .i64 0, .int .i64 0, .string ⟨#[]⟩, .int .i64 0, .int .i64 0, .bool false] 138)) := ⟨_, rfl⟩
  rw [← hw1] at D0 HC0 ⊢
  clear hw1
  have hbx := D0.out.blk (c := (w.heap.size, 130, [.int .i64 c, .int .i64 m, .int .i64 k1, .int .i64 k2, .string k3, .int .i64 v1, .int .i64 v2, .string v3])) (by simp)
  have p0 := hbx.cell 0 _ rfl
  have p1 := hbx.cell 1 _ rfl
  have p2 := hbx.cell 2 _ rfl
  have p3 := hbx.cell 3 _ rfl
  have p4 := hbx.cell 4 _ rfl
  have p5 := hbx.cell 5 _ rfl
  have p6 := hbx.cell 6 _ rfl
  have p7 := hbx.cell 7 _ rfl
  clear hbx
  have D2 := Lib.hid (D0.out.mono (Nat.le_succ N))
  have HC2 := HC0
  clear hx hN
  have G4 := Lib.hid (D2.out.blk (c := ((w.heap.size + 1), 138, [.int .i64 0, .int .i64 0, .string ⟨#[]⟩, .int .i64 0, .int .i64 0, .string ⟨#[]⟩, .int .i64 0, .int .i64 0, .bool false])) (by simp))
  have G5 := Lib.hid (D2.out.blk (c := ((w.heap.size + 1 + 1), 138, [.int .i64 0, .int .i64 0, .string ⟨#[]⟩, .int .i64 0, .int .i64 0, .string ⟨#[]⟩, .int .i64 0, .int .i64 0, .bool false])) (by simp))
  have x0 := G4.out.cell 0 _ rfl
  have f0 := G4.out.frozen 0
  have y0 := G5.out.cell 0 _ rfl
  have fz0 := G5.out.frozen 0
  have x1 := G4.out.cell 1 _ rfl
  have f1 := G4.out.frozen 1
  have y1 := G5.out.cell 1 _ rfl
  have fz1 := G5.out.frozen 1
  have x2 := G4.out.cell 2 _ rfl
  have f2 := G4.out.frozen 2
  have y2 := G5.out.cell 2 _ rfl
  have fz2 := G5.out.frozen 2
  have x3 := G4.out.cell 3 _ rfl
  have f3 := G4.out.frozen 3
  have y3 := G5.out.cell 3 _ rfl
  have fz3 := G5.out.frozen 3
  have x4 := G4.out.cell 4 _ rfl
  have f4 := G4.out.frozen 4
  have y4 := G5.out.cell 4 _ rfl
  have fz4 := G5.out.frozen 4
  have x5 := G4.out.cell 5 _ rfl
  have f5 := G4.out.frozen 5
  have y5 := G5.out.cell 5 _ rfl
  have fz5 := G5.out.frozen 5
  have x6 := G4.out.cell 6 _ rfl
  have f6 := G4.out.frozen 6
  have y6 := G5.out.cell 6 _ rfl
  have fz6 := G5.out.frozen 6
  have x7 := G4.out.cell 7 _ rfl
  have f7 := G4.out.frozen 7
  have y7 := G5.out.cell 7 _ rfl
  have fz7 := G5.out.frozen 7
  have x8 := G4.out.cell 8 _ rfl
  have f8 := G4.out.frozen 8
  have y8 := G5.out.cell 8 _ rfl
  have fz8 := G5.out.frozen 8
  go_wp2
  refine bodyPost_ret (results_ansT (x := ⟨Val.nil, Val.nil, 0, 0, false⟩) rfl _ rfl (Blk.store9 ((G4.out.setOther hne _)) rfl _ _ _ _ _ _ _ _ _)) rfl ⟨rfl, D2.out.boxes (C := fun b => b = w.heap.size + 1 ∨ b = w.heap.size + 1 + 1) (fun c hc => List.mem_cons_of_mem _ (List.mem_cons_of_mem _ (List.mem_cons_of_mem _ hc))) (fun b hb => ?_) ?_, ?_⟩
  · have h0 := HW0.out
    rcases hb with rfl | rfl
    · exact ⟨by omega, ⟨((w.heap.size + 1), 138, [.int .i64 0, .int .i64 0, .string ⟨#[]⟩, .int .i64 0, .int .i64 0, .string ⟨#[]⟩, .int .i64 0, .int .i64 0, .bool false]), by simp, rfl⟩, fun c hc => (HNB.out c hc).1⟩
    · exact ⟨by omega, ⟨((w.heap.size + 1 + 1), 138, [.int .i64 0, .int .i64 0, .string ⟨#[]⟩, .int .i64 0, .int .i64 0, .string ⟨#[]⟩, .int .i64 0, .int .i64 0, .bool false]), by simp, rfl⟩, fun c hc => (HNB.out c hc).2⟩
  · (repeat (with_reducible refine Chg.setCell ?_ (fun _ => by first | exact .inl rfl | exact .inr rfl) _))
    exact Chg.refl _ _
  · (repeat (with_reducible refine Chg.setCell ?_ (fun h => absurd h (by simp <;> omega)) _))
    exact HC2.out
theorem set_at {tabs : List T3} {i : Nat} {t : T3} (h : tabs[i]? = some t) : tabs.set i t = tabs := by
  apply List.ext_getElem?
  intro j
  by_cases e : i = j
  · subst e
    rw [List.getElem?_set_self (List.getElem?_eq_some_iff.1 h).1, h]
  · rw [List.getElem?_set_ne e]
/-- One step of a table. -/
theorem TL.do (h : TL w0 w Zp q D F T N tabs L) (hi : tabs[i]? = some (tb, mp, s)) (hN : N ≤ 99999) (x : OpT) (hx : x.k.s.size ≤ maxLen) : Calls Try.prog 86 #[.pointer (some ⟨tb, 0, none⟩), x.a] w fun e w' =>
    e = .returned (doAT D F T s x).a ∧ TL w0 w' Zp q D F (doTT D F T s x) (N + 1) (tabs.set i (tb, mp, doST D F T s x)) L ∧ Chg (fun b => w0.heap.size ≤ b ∧ ¬ Zp b) w w' := by
  obtain ⟨c, m, ⟨k1, k2, k3⟩, ⟨v1, v2, v3⟩⟩ := x
  by_cases h1 : c = 1
  · subst h1
    obtain ⟨⟨f, e0, s', T'⟩, ho⟩ : ∃ o, tsetM D F T s ⟨k1, k2, k3⟩ ⟨v1, v2, v3⟩ = o := ⟨_, rfl⟩
    have e1 : doAT D F T s ⟨1, m, ⟨k1, k2, k3⟩, ⟨v1, v2, v3⟩⟩ = ⟨Val.nil, Val.nil, f, e0, false⟩ := by unfold doAT; rw [if_pos rfl, ho]
    have e2 : doTT D F T s ⟨1, m, ⟨k1, k2, k3⟩, ⟨v1, v2, v3⟩⟩ = T' := by unfold doTT; rw [if_pos rfl, ho]
    have e3 : doST D F T s ⟨1, m, ⟨k1, k2, k3⟩, ⟨v1, v2, v3⟩⟩ = s' := by unfold doST; rw [if_pos rfl, ho]
    rw [e1, e2, e3]
    exact tdo_1 h hi hN m k1 k2 k3 v1 v2 v3 hx f e0 s' T' ho
  by_cases h2 : c = 2
  · subst h2
    have e1 : doAT D F T s ⟨2, m, ⟨k1, k2, k3⟩, ⟨v1, v2, v3⟩⟩ = ⟨Val.nil, tgetM s ⟨k1, k2, k3⟩, 0, 0, false⟩ := rfl
    have e3 : doST D F T s ⟨2, m, ⟨k1, k2, k3⟩, ⟨v1, v2, v3⟩⟩ = s := rfl
    rw [e1, e3, set_at hi]
    exact tdo_2 h hi hN m k1 k2 k3 v1 v2 v3 hx _ _ _ rfl
  by_cases h3 : c = 3
  · subst h3
    obtain ⟨⟨⟨⟨r1, r2, r3⟩, ⟨g1, g2, g3⟩⟩, e0⟩, ho⟩ : ∃ o, tnextM s ⟨k1, k2, k3⟩ = o := ⟨_, rfl⟩
    have e1 : doAT D F T s ⟨3, m, ⟨k1, k2, k3⟩, ⟨v1, v2, v3⟩⟩ = ⟨(tnextM s ⟨k1, k2, k3⟩).1.1, (tnextM s ⟨k1, k2, k3⟩).1.2, 0, (tnextM s ⟨k1, k2, k3⟩).2, false⟩ := rfl
    have e3 : doST D F T s ⟨3, m, ⟨k1, k2, k3⟩, ⟨v1, v2, v3⟩⟩ = s := rfl
    rw [e1, e3, set_at hi, ho]
    exact tdo_3 h hi hN m k1 k2 k3 v1 v2 v3 hx _ _ _ _ _ _ _ ho
  by_cases h4 : c = 4
  · subst h4
    have e1 : doAT D F T s ⟨4, m, ⟨k1, k2, k3⟩, ⟨v1, v2, v3⟩⟩ = ⟨Val.nil, tatM s m, 0, 0, false⟩ := rfl
    have e3 : doST D F T s ⟨4, m, ⟨k1, k2, k3⟩, ⟨v1, v2, v3⟩⟩ = s := rfl
    rw [e1, e3, set_at hi]
    exact tdo_4 h hi hN m k1 k2 k3 v1 v2 v3 hx _ _ _ rfl
  by_cases h5 : c = 5
  · subst h5
    exact tdo_5 h hi hN m k1 k2 k3 v1 v2 v3 hx _ rfl
  by_cases h6 : c = 6
  · subst h6
    have e3 : doST D F T s ⟨6, m, ⟨k1, k2, k3⟩, ⟨v1, v2, v3⟩⟩ = s := rfl
    rw [e3, set_at hi]
    exact tdo_6 h hi hN m k1 k2 k3 v1 v2 v3 hx _ _ ⟨rfl, rfl⟩
  have e1 : doAT D F T s ⟨c, m, ⟨k1, k2, k3⟩, ⟨v1, v2, v3⟩⟩ = ⟨Val.nil, Val.nil, 0, 0, false⟩ := by unfold doAT; rw [if_neg h1, if_neg h2, if_neg h3, if_neg h4, if_neg h5, if_neg h6]
  have e2 : doTT D F T s ⟨c, m, ⟨k1, k2, k3⟩, ⟨v1, v2, v3⟩⟩ = T := by unfold doTT; rw [if_neg h1]
  have e3 : doST D F T s ⟨c, m, ⟨k1, k2, k3⟩, ⟨v1, v2, v3⟩⟩ = s := by unfold doST; rw [if_neg h1, if_neg h5]
  rw [e1, e2, e3, set_at hi]
  exact tdo_0 h hi hN c m k1 k2 k3 v1 v2 v3 hx (by simp [h1]) (by simp [h2]) (by simp [h3]) (by simp [h4]) (by simp [h5]) (by simp [h6])
end
end Go.Proofs.Ytmjfmfelbmbniaa
