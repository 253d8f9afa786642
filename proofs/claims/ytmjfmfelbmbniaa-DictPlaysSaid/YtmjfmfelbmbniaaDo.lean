/- Layer 13: one step, in the program's dictionary and in the reference's. -/
import Derived.Test.YtmjfmfelbmbniaaRp
import Derived.Test.YtmjfmfelbmbniaaDiO
namespace Go.Proofs.Ytmjfmfelbmbniaa
open Go.RowKit Go.Maps HK ShM
set_option linter.unusedVariables false
set_option linter.unusedSimpArgs false
/-- What a step answers: a key, a value, whether, an error's number. -/
structure Ans where
  k : Val
  v : Val
  is : Bool
  e : Int
abbrev Ans.cells (x : Ans) : List Value := [.int .i64 x.k.k, .int .i64 x.k.n, .string x.k.s, .int .i64 x.v.k, .int .i64 x.v.n, .string x.v.s, .bool x.is, .int .i64 x.e]
abbrev Ans.a (x : Ans) : Value := .agg #[.int .i64 x.k.k, .int .i64 x.k.n, .string x.k.s, .int .i64 x.v.k, .int .i64 x.v.n, .string x.v.s, .bool x.is, .int .i64 x.e]
abbrev OpV.a (x : OpV) : Value := .agg #[.int .i64 x.c, .int .i64 x.k.k, .int .i64 x.k.n, .string x.k.s, .int .i64 x.v.k, .int .i64 x.v.n, .string x.v.s]
def doA (L : Pairs) (x : OpV) : Ans :=
  if x.c = 1 then ⟨Val.nil, Val.nil, setF L x.k x.v, keyE x.k⟩ else if x.c = 2 then ⟨Val.nil, getV L x.k, false, 0⟩ else if x.c = 3 then ⟨Val.nil, Val.nil, hasK L x.k, 0⟩
  else if x.c = 4 then ⟨Val.nil, Val.nil, hasK L x.k, 0⟩ else if x.c = 5 then ⟨(nextM L x.k).1.1, (nextM L x.k).1.2, false, (nextM L x.k).2⟩ else ⟨Val.nil, Val.nil, false, 0⟩
def doL (L : Pairs) (x : OpV) : Pairs := if x.c = 1 then setL L x.k x.v else if x.c = 4 then (if hasK L x.k then dropA L (keyV x.k) else L) else L
theorem results_ans {fn : Func} {t : Tmp} {b : Nat} {x : Ans} (hr : fn.results = #[.cell t 76]) (tmps : Array Value) (ht : tmps.getD t undef = .pointer (some ⟨b, 0, none⟩)) {w : World} (h : Blk w b 76 x.cells) : (results fn tmps).run Try.prog w = .ok x.a w := by
  have x0 := h.cell 0 _ rfl
  have x1 := h.cell 1 _ rfl
  have x2 := h.cell 2 _ rfl
  have x3 := h.cell 3 _ rfl
  have x4 := h.cell 4 _ rfl
  have x5 := h.cell 5 _ rfl
  have x6 := h.cell 6 _ rfl
  have x7 := h.cell 7 _ rfl
  have ht' : tmps[t]?.getD undef = .pointer (some ⟨b, 0, none⟩) := (RG.getD_form ⟨tmps, []⟩ t).symm.trans ht
  simp [results, hr, ht', go_sem, x0, x1, x2, x3, x4, x5, x6, x7]
theorem Blk.store8 {w : World} {b : Nat} {cs : List Value} (h : Blk w b 76 cs) (hl : cs.length = 8) (a0 a1 a2 a3 a4 a5 a6 a7 : Value) :
    Blk ((((((((w.setCell ⟨b, 0, none⟩ a0).setCell ⟨b, 1, none⟩ a1).setCell ⟨b, 2, none⟩ a2).setCell ⟨b, 3, none⟩ a3).setCell ⟨b, 4, none⟩ a4).setCell ⟨b, 5, none⟩ a5).setCell ⟨b, 6, none⟩ a6).setCell ⟨b, 7, none⟩ a7) b 76 [a0, a1, a2, a3, a4, a5, a6, a7] := by
  have h1 := (((((((h.setSame 0 a0).setSame 1 a1).setSame 2 a2).setSame 3 a3).setSame 4 a4).setSame 5 a5).setSame 6 a6).setSame 7 a7
  match cs, hl with
  | [c0, c1, c2, c3, c4, c5, c6, c7], _ => exact h1
section
variable {w w' : World} {X : Nat → Prop} {d N rb : Nat} {L : Pairs}
theorem DAt.setCell (h : DAt w X d L N) {a : Addr} (ha : ¬ X a.block) (v : Value) : DAt (w.setCell a v) X d L N :=
  h.of (by simp) (fun b hb => Below.heap_setCell _ _ _ _ (fun e => ha (e ▸ hb)))
theorem RD.setCell (h : RD w X rb L) {a : Addr} (ha : ¬ X a.block) (v : Value) : RD (w.setCell a v) X rb L :=
  h.of (by simp) (fun b hb => Below.heap_setCell _ _ _ _ (fun e => ha (e ▸ hb)))
theorem keepD {X' : Nat → Prop} {W : World} (h : DAt W X' d L N ∧ Chg X w W) {a : Addr} (h1 : ¬ X' a.block) (h2 : w.heap.size ≤ a.block) (v : Value) : DAt (W.setCell a v) X' d L N ∧ Chg X w (W.setCell a v) :=
  ⟨h.1.setCell h1 v, h.2.setCell (fun h => absurd h2 (Nat.not_le.2 h)) v⟩
theorem keepR {X' : Nat → Prop} {W : World} (h : RD W X' rb L ∧ Chg X w W) {a : Addr} (h1 : ¬ X' a.block) (h2 : w.heap.size ≤ a.block) (v : Value) : RD (W.setCell a v) X' rb L ∧ Chg X w (W.setCell a v) :=
  ⟨h.1.setCell h1 v, h.2.setCell (fun h => absurd h2 (Nat.not_le.2 h)) v⟩
/-- How a step ends. -/
def DoD (w : World) (X : Nat → Prop) (d : Nat) (A : Ans) (L' : Pairs) (N : Nat) (e : Ending) (w' : World) : Prop := e = .returned A.a ∧ ∃ X', (DAt w' X' d L' N ∧ Chg X w w') ∧ ∀ b, X' b → X b ∨ w.heap.size ≤ b
def DoR (w : World) (X : Nat → Prop) (d : Nat) (A : Ans) (L' : Pairs) (e : Ending) (w' : World) : Prop := e = .returned A.a ∧ ∃ X', (RD w' X' d L' ∧ Chg X w w') ∧ ∀ b, X' b → X b ∨ w.heap.size ≤ b
set_option maxHeartbeats 8000000 in
set_option maxRecDepth 20000 in
theorem ddo_calls (h : DAt w X d L N) (hN : N < 131072) (x : OpV) (hx : x.k.s.size ≤ maxLen) : Calls Try.prog 51 #[.pointer (some ⟨d, 0, none⟩), x.a] w (DoD w X d (doA L x) (doL L x) (N + 1)) := by
  obtain ⟨c, ⟨k1, k2, k3⟩, ⟨v1, v2, v3⟩⟩ := x
  have HB0 : Hid (Below w.heap.size w (((w.alloc (.cells #[.int .i64 c, .int .i64 k1, .int .i64 k2, .string k3, .int .i64 v1, .int .i64 v2, .string v3] 59)).alloc (.cells #[.int .i64 0, .int .i64 0, .string ⟨#[]⟩, .int .i64 0, .int .i64 0, .string ⟨#[]⟩, .bool false, .int .i64 0] 76)).alloc (.cells #[.int .i64 0, .int .i64 0, .string ⟨#[]⟩, .int .i64 0, .int .i64 0, .string ⟨#[]⟩, .bool false, .int .i64 0] 76))) := Lib.hid (by (repeat (first | exact Below.refl _ _ | (refine Below.alloc ?_ (by simp <;> omega) _))))
  have H40 : Hid (Blk (((w.alloc (.cells #[.int .i64 c, .int .i64 k1, .int .i64 k2, .string k3, .int .i64 v1, .int .i64 v2, .string v3] 59)).alloc (.cells #[.int .i64 0, .int .i64 0, .string ⟨#[]⟩, .int .i64 0, .int .i64 0, .string ⟨#[]⟩, .bool false, .int .i64 0] 76)).alloc (.cells #[.int .i64 0, .int .i64 0, .string ⟨#[]⟩, .int .i64 0, .int .i64 0, .string ⟨#[]⟩, .bool false, .int .i64 0] 76)) (w.heap.size + 1) 76 [.int .i64 0, .int .i64 0, .string ⟨#[]⟩, .int .i64 0, .int .i64 0, .string ⟨#[]⟩, .bool false, .int .i64 0]) := Lib.hid (by
    have h1 := Blk.new (w.alloc (.cells #[.int .i64 c, .int .i64 k1, .int .i64 k2, .string k3, .int .i64 v1, .int .i64 v2, .string v3] 59)) [.int .i64 0, .int .i64 0, .string ⟨#[]⟩, .int .i64 0, .int .i64 0, .string ⟨#[]⟩, .bool false, .int .i64 0] 76
    simpa using h1.alloc _)
  have H50 : Hid (Blk (((w.alloc (.cells #[.int .i64 c, .int .i64 k1, .int .i64 k2, .string k3, .int .i64 v1, .int .i64 v2, .string v3] 59)).alloc (.cells #[.int .i64 0, .int .i64 0, .string ⟨#[]⟩, .int .i64 0, .int .i64 0, .string ⟨#[]⟩, .bool false, .int .i64 0] 76)).alloc (.cells #[.int .i64 0, .int .i64 0, .string ⟨#[]⟩, .int .i64 0, .int .i64 0, .string ⟨#[]⟩, .bool false, .int .i64 0] 76)) (w.heap.size + 1 + 1) 76 [.int .i64 0, .int .i64 0, .string ⟨#[]⟩, .int .i64 0, .int .i64 0, .string ⟨#[]⟩, .bool false, .int .i64 0]) := Lib.hid (by simpa using Blk.new ((w.alloc (.cells #[.int .i64 c, .int .i64 k1, .int .i64 k2, .string k3, .int .i64 v1, .int .i64 v2, .string v3] 59)).alloc (.cells #[.int .i64 0, .int .i64 0, .string ⟨#[]⟩, .int .i64 0, .int .i64 0, .string ⟨#[]⟩, .bool false, .int .i64 0] 76)) [.int .i64 0, .int .i64 0, .string ⟨#[]⟩, .int .i64 0, .int .i64 0, .string ⟨#[]⟩, .bool false, .int .i64 0] 76)
  have HD := Lib.hid h
  have HT := Lib.hid h.lt
  have C1 := Lib.hid (fun (W : World) (h : DAt W X d L N) => dset_calls h hN ⟨k1, k2, k3⟩ ⟨v1, v2, v3⟩ hx)
  have C2 := Lib.hid (fun (W : World) (h : DAt W X d L N) => dget_calls h ⟨k1, k2, k3⟩ hx)
  have C3 := Lib.hid (fun (W : World) (h : DAt W X d L N) => dhas_calls h ⟨k1, k2, k3⟩ hx)
  have C4 := Lib.hid (fun (W : World) (h : DAt W X d L N) => ddrop_calls h ⟨k1, k2, k3⟩ hx)
  have C5 := Lib.hid (fun (W : World) (h : DAt W X d L N) => dnext_calls h ⟨k1, k2, k3⟩ hx)
  clear h hx
  by_cases n1 : c = 1
  · subst n1
    have e1 : doA L ⟨1, ⟨k1, k2, k3⟩, ⟨v1, v2, v3⟩⟩ = ⟨Val.nil, Val.nil, setF L ⟨k1, k2, k3⟩ ⟨v1, v2, v3⟩, keyE ⟨k1, k2, k3⟩⟩ := rfl
    have e2 : doL L ⟨1, ⟨k1, k2, k3⟩, ⟨v1, v2, v3⟩⟩ = setL L ⟨k1, k2, k3⟩ ⟨v1, v2, v3⟩ := rfl
    rw [e1, e2]
    generalize setF L ⟨k1, k2, k3⟩ ⟨v1, v2, v3⟩ = sf at *
    generalize keyE ⟨k1, k2, k3⟩ = ke at *
    generalize setL L ⟨k1, k2, k3⟩ ⟨v1, v2, v3⟩ = sl at *
    clear e1 e2
    have hne : w.heap.size + 1 ≠ w.heap.size + 1 + 1 := by omega
    clear C2 C3 C4 C5
    go_enter Try.func51, Try.ntmps51
    go_wp2_with (go_at_call 44; (with_reducible refine (C1.out _ (HD.out.below HB0.out)).mono ?_); rintro e w1 ⟨rfl, X', hr, hX, hc⟩; have G4 := Lib.hid (H40.out.of (hc.block _ H40.out.lt (fun h => absurd (HT.out _ h) (by omega)))); have G5 := Lib.hid (H50.out.of (hc.block _ H50.out.lt (fun h => absurd (HT.out _ h) (by omega)))); have N4 : Hid (¬ X' (w.heap.size + 1)) := Lib.hid (fun h => (hX _ h).elim (fun h => absurd (HT.out _ h) (by omega)) (fun h => by simp at h <;> omega)); have N5 : Hid (¬ X' (w.heap.size + 1 + 1)) := Lib.hid (fun h => (hX _ h).elim (fun h => absurd (HT.out _ h) (by omega)) (fun h => by simp at h <;> omega)); have HX : Hid (∀ b, X' b → X b ∨ w.heap.size ≤ b) := Lib.hid (fun b hb => (hX b hb).elim .inl (fun h => .inr (Nat.le_trans HB0.out.size h))); have HE := Lib.hid (And.intro hr ((Chg.ofBelow (B := X) HB0.out).trans hc (fun b _ h => h))); clear hr hX hc; have x0 := G4.out.cell 0 _ rfl; have f0 := G4.out.frozen 0; have y0 := G5.out.cell 0 _ rfl; have g0 := G5.out.frozen 0; have x1 := G4.out.cell 1 _ rfl; have f1 := G4.out.frozen 1; have y1 := G5.out.cell 1 _ rfl; have g1 := G5.out.frozen 1; have x2 := G4.out.cell 2 _ rfl; have f2 := G4.out.frozen 2; have y2 := G5.out.cell 2 _ rfl; have g2 := G5.out.frozen 2; have x3 := G4.out.cell 3 _ rfl; have f3 := G4.out.frozen 3; have y3 := G5.out.cell 3 _ rfl; have g3 := G5.out.frozen 3; have x4 := G4.out.cell 4 _ rfl; have f4 := G4.out.frozen 4; have y4 := G5.out.cell 4 _ rfl; have g4 := G5.out.frozen 4; have x5 := G4.out.cell 5 _ rfl; have f5 := G4.out.frozen 5; have y5 := G5.out.cell 5 _ rfl; have g5 := G5.out.frozen 5; have x6 := G4.out.cell 6 _ rfl; have f6 := G4.out.frozen 6; have y6 := G5.out.cell 6 _ rfl; have g6 := G5.out.frozen 6; have x7 := G4.out.cell 7 _ rfl; have f7 := G4.out.frozen 7; have y7 := G5.out.cell 7 _ rfl; have g7 := G5.out.frozen 7)
    refine bodyPost_ret (results_ans (x := ⟨Val.nil, Val.nil, sf, ke⟩) (b := w.heap.size + 1) rfl _ rfl ?_) rfl ⟨rfl, _, ?_, HX.out⟩
    · exact Blk.store8 ((G4.out.setOther hne _).setOther hne _) rfl _ _ _ _ _ _ _ _
    · exact (keepD (a := ⟨w.heap.size + 1, 7, none⟩) (keepD (a := ⟨w.heap.size + 1, 6, none⟩) (keepD (a := ⟨w.heap.size + 1, 5, none⟩) (keepD (a := ⟨w.heap.size + 1, 4, none⟩) (keepD (a := ⟨w.heap.size + 1, 3, none⟩) (keepD (a := ⟨w.heap.size + 1, 2, none⟩) (keepD (a := ⟨w.heap.size + 1, 1, none⟩) (keepD (a := ⟨w.heap.size + 1, 0, none⟩) (keepD (a := ⟨w.heap.size + 1 + 1, 7, none⟩) (keepD (a := ⟨w.heap.size + 1 + 1, 6, none⟩) HE.out N5.out (Nat.le_add_right _ 2) _) N5.out (Nat.le_add_right _ 2) _) N4.out (Nat.le_add_right _ 1) _) N4.out (Nat.le_add_right _ 1) _) N4.out (Nat.le_add_right _ 1) _) N4.out (Nat.le_add_right _ 1) _) N4.out (Nat.le_add_right _ 1) _) N4.out (Nat.le_add_right _ 1) _) N4.out (Nat.le_add_right _ 1) _) N4.out (Nat.le_add_right _ 1) _)
  by_cases n2 : c = 2
  · subst n2
    have e1 : doA L ⟨2, ⟨k1, k2, k3⟩, ⟨v1, v2, v3⟩⟩ = ⟨Val.nil, getV L ⟨k1, k2, k3⟩, false, 0⟩ := rfl
    have e2 : doL L ⟨2, ⟨k1, k2, k3⟩, ⟨v1, v2, v3⟩⟩ = L := rfl
    rw [e1, e2]
    generalize getV L ⟨k1, k2, k3⟩ = gv at *
    obtain ⟨r1, r2, r3⟩ := gv
    clear e1 e2
    have hne : w.heap.size + 1 ≠ w.heap.size + 1 + 1 := by omega
    clear C1 C3 C4 C5
    go_enter Try.func51, Try.ntmps51
    go_wp2_with (go_at_call 47; (with_reducible refine (C2.out _ (HD.out.below HB0.out)).mono ?_); rintro e w1 ⟨rfl, hb⟩; have hc := Chg.ofBelow (B := X) hb; have G4 := Lib.hid (H40.out.of (hc.block _ H40.out.lt (fun h => absurd (HT.out _ h) (by omega)))); have G5 := Lib.hid (H50.out.of (hc.block _ H50.out.lt (fun h => absurd (HT.out _ h) (by omega)))); have N4 : Hid (¬ X (w.heap.size + 1)) := Lib.hid (fun h => absurd (HT.out _ h) (by omega)); have N5 : Hid (¬ X (w.heap.size + 1 + 1)) := Lib.hid (fun h => absurd (HT.out _ h) (by omega)); have HX : Hid (∀ b, X b → X b ∨ w.heap.size ≤ b) := Lib.hid (fun b hb => .inl hb); have HE := Lib.hid (And.intro ((HD.out.below (HB0.out.trans (hb.mono HB0.out.size))).mono (Nat.le_succ _)) ((Chg.ofBelow (B := X) HB0.out).trans hc (fun b _ h => h))); clear hb hc; have x0 := G4.out.cell 0 _ rfl; have f0 := G4.out.frozen 0; have y0 := G5.out.cell 0 _ rfl; have g0 := G5.out.frozen 0; have x1 := G4.out.cell 1 _ rfl; have f1 := G4.out.frozen 1; have y1 := G5.out.cell 1 _ rfl; have g1 := G5.out.frozen 1; have x2 := G4.out.cell 2 _ rfl; have f2 := G4.out.frozen 2; have y2 := G5.out.cell 2 _ rfl; have g2 := G5.out.frozen 2; have x3 := G4.out.cell 3 _ rfl; have f3 := G4.out.frozen 3; have y3 := G5.out.cell 3 _ rfl; have g3 := G5.out.frozen 3; have x4 := G4.out.cell 4 _ rfl; have f4 := G4.out.frozen 4; have y4 := G5.out.cell 4 _ rfl; have g4 := G5.out.frozen 4; have x5 := G4.out.cell 5 _ rfl; have f5 := G4.out.frozen 5; have y5 := G5.out.cell 5 _ rfl; have g5 := G5.out.frozen 5; have x6 := G4.out.cell 6 _ rfl; have f6 := G4.out.frozen 6; have y6 := G5.out.cell 6 _ rfl; have g6 := G5.out.frozen 6; have x7 := G4.out.cell 7 _ rfl; have f7 := G4.out.frozen 7; have y7 := G5.out.cell 7 _ rfl; have g7 := G5.out.frozen 7)
    refine bodyPost_ret (results_ans (x := ⟨Val.nil, ⟨r1, r2, r3⟩, false, 0⟩) (b := w.heap.size + 1) rfl _ rfl ?_) rfl ⟨rfl, _, ?_, HX.out⟩
    · exact Blk.store8 ((((G4.out.setOther hne _).setOther hne _).setOther hne _).setOther hne _) rfl _ _ _ _ _ _ _ _
    · exact (keepD (a := ⟨w.heap.size + 1, 7, none⟩) (keepD (a := ⟨w.heap.size + 1, 6, none⟩) (keepD (a := ⟨w.heap.size + 1, 5, none⟩) (keepD (a := ⟨w.heap.size + 1, 4, none⟩) (keepD (a := ⟨w.heap.size + 1, 3, none⟩) (keepD (a := ⟨w.heap.size + 1, 2, none⟩) (keepD (a := ⟨w.heap.size + 1, 1, none⟩) (keepD (a := ⟨w.heap.size + 1, 0, none⟩) (keepD (a := ⟨w.heap.size + 1 + 1, 7, none⟩) (keepD (a := ⟨w.heap.size + 1 + 1, 5, none⟩) (keepD (a := ⟨w.heap.size + 1 + 1, 4, none⟩) (keepD (a := ⟨w.heap.size + 1 + 1, 3, none⟩) HE.out N5.out (Nat.le_add_right _ 2) _) N5.out (Nat.le_add_right _ 2) _) N5.out (Nat.le_add_right _ 2) _) N5.out (Nat.le_add_right _ 2) _) N4.out (Nat.le_add_right _ 1) _) N4.out (Nat.le_add_right _ 1) _) N4.out (Nat.le_add_right _ 1) _) N4.out (Nat.le_add_right _ 1) _) N4.out (Nat.le_add_right _ 1) _) N4.out (Nat.le_add_right _ 1) _) N4.out (Nat.le_add_right _ 1) _) N4.out (Nat.le_add_right _ 1) _)
  by_cases n3 : c = 3
  · subst n3
    have e1 : doA L ⟨3, ⟨k1, k2, k3⟩, ⟨v1, v2, v3⟩⟩ = ⟨Val.nil, Val.nil, hasK L ⟨k1, k2, k3⟩, 0⟩ := rfl
    have e2 : doL L ⟨3, ⟨k1, k2, k3⟩, ⟨v1, v2, v3⟩⟩ = L := rfl
    rw [e1, e2]
    generalize hasK L ⟨k1, k2, k3⟩ = hs at *
    clear e1 e2
    have hne : w.heap.size + 1 ≠ w.heap.size + 1 + 1 := by omega
    clear C1 C2 C4 C5
    go_enter Try.func51, Try.ntmps51
    go_wp2_with (go_at_call 56; (with_reducible refine (C3.out _ (HD.out.below HB0.out)).mono ?_); rintro e w1 ⟨rfl, hb⟩; have hc := Chg.ofBelow (B := X) hb; have G4 := Lib.hid (H40.out.of (hc.block _ H40.out.lt (fun h => absurd (HT.out _ h) (by omega)))); have G5 := Lib.hid (H50.out.of (hc.block _ H50.out.lt (fun h => absurd (HT.out _ h) (by omega)))); have N4 : Hid (¬ X (w.heap.size + 1)) := Lib.hid (fun h => absurd (HT.out _ h) (by omega)); have N5 : Hid (¬ X (w.heap.size + 1 + 1)) := Lib.hid (fun h => absurd (HT.out _ h) (by omega)); have HX : Hid (∀ b, X b → X b ∨ w.heap.size ≤ b) := Lib.hid (fun b hb => .inl hb); have HE := Lib.hid (And.intro ((HD.out.below (HB0.out.trans (hb.mono HB0.out.size))).mono (Nat.le_succ _)) ((Chg.ofBelow (B := X) HB0.out).trans hc (fun b _ h => h))); clear hb hc; have x0 := G4.out.cell 0 _ rfl; have f0 := G4.out.frozen 0; have y0 := G5.out.cell 0 _ rfl; have g0 := G5.out.frozen 0; have x1 := G4.out.cell 1 _ rfl; have f1 := G4.out.frozen 1; have y1 := G5.out.cell 1 _ rfl; have g1 := G5.out.frozen 1; have x2 := G4.out.cell 2 _ rfl; have f2 := G4.out.frozen 2; have y2 := G5.out.cell 2 _ rfl; have g2 := G5.out.frozen 2; have x3 := G4.out.cell 3 _ rfl; have f3 := G4.out.frozen 3; have y3 := G5.out.cell 3 _ rfl; have g3 := G5.out.frozen 3; have x4 := G4.out.cell 4 _ rfl; have f4 := G4.out.frozen 4; have y4 := G5.out.cell 4 _ rfl; have g4 := G5.out.frozen 4; have x5 := G4.out.cell 5 _ rfl; have f5 := G4.out.frozen 5; have y5 := G5.out.cell 5 _ rfl; have g5 := G5.out.frozen 5; have x6 := G4.out.cell 6 _ rfl; have f6 := G4.out.frozen 6; have y6 := G5.out.cell 6 _ rfl; have g6 := G5.out.frozen 6; have x7 := G4.out.cell 7 _ rfl; have f7 := G4.out.frozen 7; have y7 := G5.out.cell 7 _ rfl; have g7 := G5.out.frozen 7)
    refine bodyPost_ret (results_ans (x := ⟨Val.nil, Val.nil, hs, 0⟩) (b := w.heap.size + 1) rfl _ rfl ?_) rfl ⟨rfl, _, ?_, HX.out⟩
    · exact Blk.store8 ((G4.out.setOther hne _).setOther hne _) rfl _ _ _ _ _ _ _ _
    · exact (keepD (a := ⟨w.heap.size + 1, 7, none⟩) (keepD (a := ⟨w.heap.size + 1, 6, none⟩) (keepD (a := ⟨w.heap.size + 1, 5, none⟩) (keepD (a := ⟨w.heap.size + 1, 4, none⟩) (keepD (a := ⟨w.heap.size + 1, 3, none⟩) (keepD (a := ⟨w.heap.size + 1, 2, none⟩) (keepD (a := ⟨w.heap.size + 1, 1, none⟩) (keepD (a := ⟨w.heap.size + 1, 0, none⟩) (keepD (a := ⟨w.heap.size + 1 + 1, 7, none⟩) (keepD (a := ⟨w.heap.size + 1 + 1, 6, none⟩) HE.out N5.out (Nat.le_add_right _ 2) _) N5.out (Nat.le_add_right _ 2) _) N4.out (Nat.le_add_right _ 1) _) N4.out (Nat.le_add_right _ 1) _) N4.out (Nat.le_add_right _ 1) _) N4.out (Nat.le_add_right _ 1) _) N4.out (Nat.le_add_right _ 1) _) N4.out (Nat.le_add_right _ 1) _) N4.out (Nat.le_add_right _ 1) _) N4.out (Nat.le_add_right _ 1) _)
  by_cases n4 : c = 4
  · subst n4
    have e1 : doA L ⟨4, ⟨k1, k2, k3⟩, ⟨v1, v2, v3⟩⟩ = ⟨Val.nil, Val.nil, hasK L ⟨k1, k2, k3⟩, 0⟩ := rfl
    have e2 : doL L ⟨4, ⟨k1, k2, k3⟩, ⟨v1, v2, v3⟩⟩ = (if hasK L ⟨k1, k2, k3⟩ then dropA L (keyV ⟨k1, k2, k3⟩) else L) := rfl
    rw [e1, e2]
    generalize (if hasK L ⟨k1, k2, k3⟩ then dropA L (keyV ⟨k1, k2, k3⟩) else L) = dl at *
    generalize hasK L ⟨k1, k2, k3⟩ = hs at *
    clear e1 e2
    have hne : w.heap.size + 1 ≠ w.heap.size + 1 + 1 := by omega
    clear C1 C2 C3 C5
    go_enter Try.func51, Try.ntmps51
    go_wp2_with (go_at_call 45; (with_reducible refine (C4.out _ (HD.out.below HB0.out)).mono ?_); rintro e w1 ⟨rfl, hr, hc⟩; have G4 := Lib.hid (H40.out.of (hc.block _ H40.out.lt (fun h => absurd (HT.out _ h) (by omega)))); have G5 := Lib.hid (H50.out.of (hc.block _ H50.out.lt (fun h => absurd (HT.out _ h) (by omega)))); have N4 : Hid (¬ X (w.heap.size + 1)) := Lib.hid (fun h => absurd (HT.out _ h) (by omega)); have N5 : Hid (¬ X (w.heap.size + 1 + 1)) := Lib.hid (fun h => absurd (HT.out _ h) (by omega)); have HX : Hid (∀ b, X b → X b ∨ w.heap.size ≤ b) := Lib.hid (fun b hb => .inl hb); have HE := Lib.hid (And.intro (hr.mono (Nat.le_succ _)) ((Chg.ofBelow (B := X) HB0.out).trans hc (fun b _ h => h))); clear hr hc; have x0 := G4.out.cell 0 _ rfl; have f0 := G4.out.frozen 0; have y0 := G5.out.cell 0 _ rfl; have g0 := G5.out.frozen 0; have x1 := G4.out.cell 1 _ rfl; have f1 := G4.out.frozen 1; have y1 := G5.out.cell 1 _ rfl; have g1 := G5.out.frozen 1; have x2 := G4.out.cell 2 _ rfl; have f2 := G4.out.frozen 2; have y2 := G5.out.cell 2 _ rfl; have g2 := G5.out.frozen 2; have x3 := G4.out.cell 3 _ rfl; have f3 := G4.out.frozen 3; have y3 := G5.out.cell 3 _ rfl; have g3 := G5.out.frozen 3; have x4 := G4.out.cell 4 _ rfl; have f4 := G4.out.frozen 4; have y4 := G5.out.cell 4 _ rfl; have g4 := G5.out.frozen 4; have x5 := G4.out.cell 5 _ rfl; have f5 := G4.out.frozen 5; have y5 := G5.out.cell 5 _ rfl; have g5 := G5.out.frozen 5; have x6 := G4.out.cell 6 _ rfl; have f6 := G4.out.frozen 6; have y6 := G5.out.cell 6 _ rfl; have g6 := G5.out.frozen 6; have x7 := G4.out.cell 7 _ rfl; have f7 := G4.out.frozen 7; have y7 := G5.out.cell 7 _ rfl; have g7 := G5.out.frozen 7)
    refine bodyPost_ret (results_ans (x := ⟨Val.nil, Val.nil, hs, 0⟩) (b := w.heap.size + 1) rfl _ rfl ?_) rfl ⟨rfl, _, ?_, HX.out⟩
    · exact Blk.store8 ((G4.out.setOther hne _).setOther hne _) rfl _ _ _ _ _ _ _ _
    · exact (keepD (a := ⟨w.heap.size + 1, 7, none⟩) (keepD (a := ⟨w.heap.size + 1, 6, none⟩) (keepD (a := ⟨w.heap.size + 1, 5, none⟩) (keepD (a := ⟨w.heap.size + 1, 4, none⟩) (keepD (a := ⟨w.heap.size + 1, 3, none⟩) (keepD (a := ⟨w.heap.size + 1, 2, none⟩) (keepD (a := ⟨w.heap.size + 1, 1, none⟩) (keepD (a := ⟨w.heap.size + 1, 0, none⟩) (keepD (a := ⟨w.heap.size + 1 + 1, 7, none⟩) (keepD (a := ⟨w.heap.size + 1 + 1, 6, none⟩) HE.out N5.out (Nat.le_add_right _ 2) _) N5.out (Nat.le_add_right _ 2) _) N4.out (Nat.le_add_right _ 1) _) N4.out (Nat.le_add_right _ 1) _) N4.out (Nat.le_add_right _ 1) _) N4.out (Nat.le_add_right _ 1) _) N4.out (Nat.le_add_right _ 1) _) N4.out (Nat.le_add_right _ 1) _) N4.out (Nat.le_add_right _ 1) _) N4.out (Nat.le_add_right _ 1) _)
  by_cases n5 : c = 5
  · subst n5
    have e1 : doA L ⟨5, ⟨k1, k2, k3⟩, ⟨v1, v2, v3⟩⟩ = ⟨(nextM L ⟨k1, k2, k3⟩).1.1, (nextM L ⟨k1, k2, k3⟩).1.2, false, (nextM L ⟨k1, k2, k3⟩).2⟩ := rfl
    have e2 : doL L ⟨5, ⟨k1, k2, k3⟩, ⟨v1, v2, v3⟩⟩ = L := rfl
    rw [e1, e2]
    generalize nextM L ⟨k1, k2, k3⟩ = nx at *
    obtain ⟨⟨⟨r1, r2, r3⟩, ⟨s1, s2, s3⟩⟩, ne⟩ := nx
    clear e1 e2
    have hne : w.heap.size + 1 ≠ w.heap.size + 1 + 1 := by omega
    clear C1 C2 C3 C4
    go_enter Try.func51, Try.ntmps51
    go_wp2_with (go_at_call 49; (with_reducible refine (C5.out _ (HD.out.below HB0.out)).mono ?_); rintro e w1 ⟨rfl, hb⟩; have hc := Chg.ofBelow (B := X) hb; have G4 := Lib.hid (H40.out.of (hc.block _ H40.out.lt (fun h => absurd (HT.out _ h) (by omega)))); have G5 := Lib.hid (H50.out.of (hc.block _ H50.out.lt (fun h => absurd (HT.out _ h) (by omega)))); have N4 : Hid (¬ X (w.heap.size + 1)) := Lib.hid (fun h => absurd (HT.out _ h) (by omega)); have N5 : Hid (¬ X (w.heap.size + 1 + 1)) := Lib.hid (fun h => absurd (HT.out _ h) (by omega)); have HX : Hid (∀ b, X b → X b ∨ w.heap.size ≤ b) := Lib.hid (fun b hb => .inl hb); have HE := Lib.hid (And.intro ((HD.out.below (HB0.out.trans (hb.mono HB0.out.size))).mono (Nat.le_succ _)) ((Chg.ofBelow (B := X) HB0.out).trans hc (fun b _ h => h))); clear hb hc; have x0 := G4.out.cell 0 _ rfl; have f0 := G4.out.frozen 0; have y0 := G5.out.cell 0 _ rfl; have g0 := G5.out.frozen 0; have x1 := G4.out.cell 1 _ rfl; have f1 := G4.out.frozen 1; have y1 := G5.out.cell 1 _ rfl; have g1 := G5.out.frozen 1; have x2 := G4.out.cell 2 _ rfl; have f2 := G4.out.frozen 2; have y2 := G5.out.cell 2 _ rfl; have g2 := G5.out.frozen 2; have x3 := G4.out.cell 3 _ rfl; have f3 := G4.out.frozen 3; have y3 := G5.out.cell 3 _ rfl; have g3 := G5.out.frozen 3; have x4 := G4.out.cell 4 _ rfl; have f4 := G4.out.frozen 4; have y4 := G5.out.cell 4 _ rfl; have g4 := G5.out.frozen 4; have x5 := G4.out.cell 5 _ rfl; have f5 := G4.out.frozen 5; have y5 := G5.out.cell 5 _ rfl; have g5 := G5.out.frozen 5; have x6 := G4.out.cell 6 _ rfl; have f6 := G4.out.frozen 6; have y6 := G5.out.cell 6 _ rfl; have g6 := G5.out.frozen 6; have x7 := G4.out.cell 7 _ rfl; have f7 := G4.out.frozen 7; have y7 := G5.out.cell 7 _ rfl; have g7 := G5.out.frozen 7)
    refine bodyPost_ret (results_ans (x := ⟨⟨r1, r2, r3⟩, ⟨s1, s2, s3⟩, false, ne⟩) (b := w.heap.size + 1) rfl _ rfl ?_) rfl ⟨rfl, _, ?_, HX.out⟩
    · exact Blk.store8 (((((((G4.out.setOther hne _).setOther hne _).setOther hne _).setOther hne _).setOther hne _).setOther hne _).setOther hne _) rfl _ _ _ _ _ _ _ _
    · exact (keepD (a := ⟨w.heap.size + 1, 7, none⟩) (keepD (a := ⟨w.heap.size + 1, 6, none⟩) (keepD (a := ⟨w.heap.size + 1, 5, none⟩) (keepD (a := ⟨w.heap.size + 1, 4, none⟩) (keepD (a := ⟨w.heap.size + 1, 3, none⟩) (keepD (a := ⟨w.heap.size + 1, 2, none⟩) (keepD (a := ⟨w.heap.size + 1, 1, none⟩) (keepD (a := ⟨w.heap.size + 1, 0, none⟩) (keepD (a := ⟨w.heap.size + 1 + 1, 7, none⟩) (keepD (a := ⟨w.heap.size + 1 + 1, 5, none⟩) (keepD (a := ⟨w.heap.size + 1 + 1, 4, none⟩) (keepD (a := ⟨w.heap.size + 1 + 1, 3, none⟩) (keepD (a := ⟨w.heap.size + 1 + 1, 2, none⟩) (keepD (a := ⟨w.heap.size + 1 + 1, 1, none⟩) (keepD (a := ⟨w.heap.size + 1 + 1, 0, none⟩) HE.out N5.out (Nat.le_add_right _ 2) _) N5.out (Nat.le_add_right _ 2) _) N5.out (Nat.le_add_right _ 2) _) N5.out (Nat.le_add_right _ 2) _) N5.out (Nat.le_add_right _ 2) _) N5.out (Nat.le_add_right _ 2) _) N5.out (Nat.le_add_right _ 2) _) N4.out (Nat.le_add_right _ 1) _) N4.out (Nat.le_add_right _ 1) _) N4.out (Nat.le_add_right _ 1) _) N4.out (Nat.le_add_right _ 1) _) N4.out (Nat.le_add_right _ 1) _) N4.out (Nat.le_add_right _ 1) _) N4.out (Nat.le_add_right _ 1) _) N4.out (Nat.le_add_right _ 1) _)
  · skip
    have e1 : doA L ⟨c, ⟨k1, k2, k3⟩, ⟨v1, v2, v3⟩⟩ = ⟨Val.nil, Val.nil, false, 0⟩ := by simp [doA, n1, n2, n3, n4, n5]
    have e2 : doL L ⟨c, ⟨k1, k2, k3⟩, ⟨v1, v2, v3⟩⟩ = L := by simp [doL, n1, n4]
    rw [e1, e2]
    have n1 : (c == 1) = false := by simp [n1]
    have n2 : (c == 2) = false := by simp [n2]
    have n3 : (c == 3) = false := by simp [n3]
    have n4 : (c == 4) = false := by simp [n4]
    have n5 : (c == 5) = false := by simp [n5]
    have N4 : Hid (¬ X (w.heap.size + 1)) := Lib.hid (fun h => absurd (HT.out _ h) (by omega))
    have N5 : Hid (¬ X (w.heap.size + 1 + 1)) := Lib.hid (fun h => absurd (HT.out _ h) (by omega))
    have HX : Hid (∀ b, X b → X b ∨ w.heap.size ≤ b) := Lib.hid (fun b hb => .inl hb)
    have HE := Lib.hid (And.intro ((HD.out.below HB0.out).mono (Nat.le_succ N)) (Chg.ofBelow (B := X) HB0.out))
    clear e1 e2
    have hne : w.heap.size + 1 ≠ w.heap.size + 1 + 1 := by omega
    clear C1 C2 C3 C4 C5
    go_enter Try.func51, Try.ntmps51
    go_wp2_with fail
    refine bodyPost_ret (results_ans (x := ⟨Val.nil, Val.nil, false, 0⟩) (b := w.heap.size + 1) rfl _ rfl ?_) rfl ⟨rfl, _, ?_, HX.out⟩
    · exact H40.out
    · exact HE.out
set_option maxHeartbeats 8000000 in
set_option maxRecDepth 20000 in
theorem rdo_calls (h : RD w X rb L) (hk : KeysOK L) (x : OpV) (hL : L.length ≤ 1048575) : Calls Try.prog 52 #[.pointer (some ⟨rb, 0, none⟩), x.a] w (DoR w X rb (doA L x) (doL L x)) := by
  obtain ⟨c, ⟨k1, k2, k3⟩, ⟨v1, v2, v3⟩⟩ := x
  have HB0 : Hid (Below w.heap.size w (((w.alloc (.cells #[.int .i64 c, .int .i64 k1, .int .i64 k2, .string k3, .int .i64 v1, .int .i64 v2, .string v3] 79)).alloc (.cells #[.int .i64 0, .int .i64 0, .string ⟨#[]⟩, .int .i64 0, .int .i64 0, .string ⟨#[]⟩, .bool false, .int .i64 0] 76)).alloc (.cells #[.int .i64 0, .int .i64 0, .string ⟨#[]⟩, .int .i64 0, .int .i64 0, .string ⟨#[]⟩, .bool false, .int .i64 0] 76))) := Lib.hid (by (repeat (first | exact Below.refl _ _ | (refine Below.alloc ?_ (by simp <;> omega) _))))
  have H40 : Hid (Blk (((w.alloc (.cells #[.int .i64 c, .int .i64 k1, .int .i64 k2, .string k3, .int .i64 v1, .int .i64 v2, .string v3] 79)).alloc (.cells #[.int .i64 0, .int .i64 0, .string ⟨#[]⟩, .int .i64 0, .int .i64 0, .string ⟨#[]⟩, .bool false, .int .i64 0] 76)).alloc (.cells #[.int .i64 0, .int .i64 0, .string ⟨#[]⟩, .int .i64 0, .int .i64 0, .string ⟨#[]⟩, .bool false, .int .i64 0] 76)) (w.heap.size + 1) 76 [.int .i64 0, .int .i64 0, .string ⟨#[]⟩, .int .i64 0, .int .i64 0, .string ⟨#[]⟩, .bool false, .int .i64 0]) := Lib.hid (by
    have h1 := Blk.new (w.alloc (.cells #[.int .i64 c, .int .i64 k1, .int .i64 k2, .string k3, .int .i64 v1, .int .i64 v2, .string v3] 79)) [.int .i64 0, .int .i64 0, .string ⟨#[]⟩, .int .i64 0, .int .i64 0, .string ⟨#[]⟩, .bool false, .int .i64 0] 76
    simpa using h1.alloc _)
  have H50 : Hid (Blk (((w.alloc (.cells #[.int .i64 c, .int .i64 k1, .int .i64 k2, .string k3, .int .i64 v1, .int .i64 v2, .string v3] 79)).alloc (.cells #[.int .i64 0, .int .i64 0, .string ⟨#[]⟩, .int .i64 0, .int .i64 0, .string ⟨#[]⟩, .bool false, .int .i64 0] 76)).alloc (.cells #[.int .i64 0, .int .i64 0, .string ⟨#[]⟩, .int .i64 0, .int .i64 0, .string ⟨#[]⟩, .bool false, .int .i64 0] 76)) (w.heap.size + 1 + 1) 76 [.int .i64 0, .int .i64 0, .string ⟨#[]⟩, .int .i64 0, .int .i64 0, .string ⟨#[]⟩, .bool false, .int .i64 0]) := Lib.hid (by simpa using Blk.new ((w.alloc (.cells #[.int .i64 c, .int .i64 k1, .int .i64 k2, .string k3, .int .i64 v1, .int .i64 v2, .string v3] 79)).alloc (.cells #[.int .i64 0, .int .i64 0, .string ⟨#[]⟩, .int .i64 0, .int .i64 0, .string ⟨#[]⟩, .bool false, .int .i64 0] 76)) [.int .i64 0, .int .i64 0, .string ⟨#[]⟩, .int .i64 0, .int .i64 0, .string ⟨#[]⟩, .bool false, .int .i64 0] 76)
  have HD := Lib.hid h
  have HT := Lib.hid h.lt
  have C1 := Lib.hid (fun (W : World) (h : RD W X rb L) => rset_calls h hk ⟨k1, k2, k3⟩ ⟨v1, v2, v3⟩ hL)
  have C2 := Lib.hid (fun (W : World) (h : RD W X rb L) => rget_calls h hk ⟨k1, k2, k3⟩ (by omega))
  have C3 := Lib.hid (fun (W : World) (h : RD W X rb L) => rhas_calls h hk ⟨k1, k2, k3⟩ (by omega))
  have C4 := Lib.hid (fun (W : World) (h : RD W X rb L) => rdrop_calls h hk ⟨k1, k2, k3⟩ (by omega))
  have C5 := Lib.hid (fun (W : World) (h : RD W X rb L) => rnext_calls h hk ⟨k1, k2, k3⟩ (by omega))
  clear h
  by_cases n1 : c = 1
  · subst n1
    have e1 : doA L ⟨1, ⟨k1, k2, k3⟩, ⟨v1, v2, v3⟩⟩ = ⟨Val.nil, Val.nil, setF L ⟨k1, k2, k3⟩ ⟨v1, v2, v3⟩, keyE ⟨k1, k2, k3⟩⟩ := rfl
    have e2 : doL L ⟨1, ⟨k1, k2, k3⟩, ⟨v1, v2, v3⟩⟩ = setL L ⟨k1, k2, k3⟩ ⟨v1, v2, v3⟩ := rfl
    rw [e1, e2]
    generalize setF L ⟨k1, k2, k3⟩ ⟨v1, v2, v3⟩ = sf at *
    generalize keyE ⟨k1, k2, k3⟩ = ke at *
    generalize setL L ⟨k1, k2, k3⟩ ⟨v1, v2, v3⟩ = sl at *
    clear e1 e2
    have hne : w.heap.size + 1 ≠ w.heap.size + 1 + 1 := by omega
    clear C2 C3 C4 C5
    go_enter Try.func52, Try.ntmps52
    go_wp2_with (go_at_call 112; (with_reducible refine (C1.out _ (HD.out.below HB0.out)).mono ?_); rintro e w1 ⟨rfl, X', hr, hX, hc⟩; have G4 := Lib.hid (H40.out.of (hc.block _ H40.out.lt (fun h => absurd (HT.out _ h) (by omega)))); have G5 := Lib.hid (H50.out.of (hc.block _ H50.out.lt (fun h => absurd (HT.out _ h) (by omega)))); have N4 : Hid (¬ X' (w.heap.size + 1)) := Lib.hid (fun h => (hX _ h).elim (fun h => absurd (HT.out _ h) (by omega)) (fun h => by simp at h <;> omega)); have N5 : Hid (¬ X' (w.heap.size + 1 + 1)) := Lib.hid (fun h => (hX _ h).elim (fun h => absurd (HT.out _ h) (by omega)) (fun h => by simp at h <;> omega)); have HX : Hid (∀ b, X' b → X b ∨ w.heap.size ≤ b) := Lib.hid (fun b hb => (hX b hb).elim .inl (fun h => .inr (Nat.le_trans HB0.out.size h))); have HE := Lib.hid (And.intro hr ((Chg.ofBelow (B := X) HB0.out).trans hc (fun b _ h => h))); clear hr hX hc; have x0 := G4.out.cell 0 _ rfl; have f0 := G4.out.frozen 0; have y0 := G5.out.cell 0 _ rfl; have g0 := G5.out.frozen 0; have x1 := G4.out.cell 1 _ rfl; have f1 := G4.out.frozen 1; have y1 := G5.out.cell 1 _ rfl; have g1 := G5.out.frozen 1; have x2 := G4.out.cell 2 _ rfl; have f2 := G4.out.frozen 2; have y2 := G5.out.cell 2 _ rfl; have g2 := G5.out.frozen 2; have x3 := G4.out.cell 3 _ rfl; have f3 := G4.out.frozen 3; have y3 := G5.out.cell 3 _ rfl; have g3 := G5.out.frozen 3; have x4 := G4.out.cell 4 _ rfl; have f4 := G4.out.frozen 4; have y4 := G5.out.cell 4 _ rfl; have g4 := G5.out.frozen 4; have x5 := G4.out.cell 5 _ rfl; have f5 := G4.out.frozen 5; have y5 := G5.out.cell 5 _ rfl; have g5 := G5.out.frozen 5; have x6 := G4.out.cell 6 _ rfl; have f6 := G4.out.frozen 6; have y6 := G5.out.cell 6 _ rfl; have g6 := G5.out.frozen 6; have x7 := G4.out.cell 7 _ rfl; have f7 := G4.out.frozen 7; have y7 := G5.out.cell 7 _ rfl; have g7 := G5.out.frozen 7)
    refine bodyPost_ret (results_ans (x := ⟨Val.nil, Val.nil, sf, ke⟩) (b := w.heap.size + 1) rfl _ rfl ?_) rfl ⟨rfl, _, ?_, HX.out⟩
    · exact Blk.store8 ((G4.out.setOther hne _).setOther hne _) rfl _ _ _ _ _ _ _ _
    · exact (keepR (a := ⟨w.heap.size + 1, 7, none⟩) (keepR (a := ⟨w.heap.size + 1, 6, none⟩) (keepR (a := ⟨w.heap.size + 1, 5, none⟩) (keepR (a := ⟨w.heap.size + 1, 4, none⟩) (keepR (a := ⟨w.heap.size + 1, 3, none⟩) (keepR (a := ⟨w.heap.size + 1, 2, none⟩) (keepR (a := ⟨w.heap.size + 1, 1, none⟩) (keepR (a := ⟨w.heap.size + 1, 0, none⟩) (keepR (a := ⟨w.heap.size + 1 + 1, 7, none⟩) (keepR (a := ⟨w.heap.size + 1 + 1, 6, none⟩) HE.out N5.out (Nat.le_add_right _ 2) _) N5.out (Nat.le_add_right _ 2) _) N4.out (Nat.le_add_right _ 1) _) N4.out (Nat.le_add_right _ 1) _) N4.out (Nat.le_add_right _ 1) _) N4.out (Nat.le_add_right _ 1) _) N4.out (Nat.le_add_right _ 1) _) N4.out (Nat.le_add_right _ 1) _) N4.out (Nat.le_add_right _ 1) _) N4.out (Nat.le_add_right _ 1) _)
  by_cases n2 : c = 2
  · subst n2
    have e1 : doA L ⟨2, ⟨k1, k2, k3⟩, ⟨v1, v2, v3⟩⟩ = ⟨Val.nil, getV L ⟨k1, k2, k3⟩, false, 0⟩ := rfl
    have e2 : doL L ⟨2, ⟨k1, k2, k3⟩, ⟨v1, v2, v3⟩⟩ = L := rfl
    rw [e1, e2]
    generalize getV L ⟨k1, k2, k3⟩ = gv at *
    obtain ⟨r1, r2, r3⟩ := gv
    clear e1 e2
    have hne : w.heap.size + 1 ≠ w.heap.size + 1 + 1 := by omega
    clear C1 C3 C4 C5
    go_enter Try.func52, Try.ntmps52
    go_wp2_with (go_at_call 113; (with_reducible refine (C2.out _ (HD.out.below HB0.out)).mono ?_); rintro e w1 ⟨rfl, hb⟩; have hc := Chg.ofBelow (B := X) hb; have G4 := Lib.hid (H40.out.of (hc.block _ H40.out.lt (fun h => absurd (HT.out _ h) (by omega)))); have G5 := Lib.hid (H50.out.of (hc.block _ H50.out.lt (fun h => absurd (HT.out _ h) (by omega)))); have N4 : Hid (¬ X (w.heap.size + 1)) := Lib.hid (fun h => absurd (HT.out _ h) (by omega)); have N5 : Hid (¬ X (w.heap.size + 1 + 1)) := Lib.hid (fun h => absurd (HT.out _ h) (by omega)); have HX : Hid (∀ b, X b → X b ∨ w.heap.size ≤ b) := Lib.hid (fun b hb => .inl hb); have HE := Lib.hid (And.intro ((HD.out.below (HB0.out.trans (hb.mono HB0.out.size)))) ((Chg.ofBelow (B := X) HB0.out).trans hc (fun b _ h => h))); clear hb hc; have x0 := G4.out.cell 0 _ rfl; have f0 := G4.out.frozen 0; have y0 := G5.out.cell 0 _ rfl; have g0 := G5.out.frozen 0; have x1 := G4.out.cell 1 _ rfl; have f1 := G4.out.frozen 1; have y1 := G5.out.cell 1 _ rfl; have g1 := G5.out.frozen 1; have x2 := G4.out.cell 2 _ rfl; have f2 := G4.out.frozen 2; have y2 := G5.out.cell 2 _ rfl; have g2 := G5.out.frozen 2; have x3 := G4.out.cell 3 _ rfl; have f3 := G4.out.frozen 3; have y3 := G5.out.cell 3 _ rfl; have g3 := G5.out.frozen 3; have x4 := G4.out.cell 4 _ rfl; have f4 := G4.out.frozen 4; have y4 := G5.out.cell 4 _ rfl; have g4 := G5.out.frozen 4; have x5 := G4.out.cell 5 _ rfl; have f5 := G4.out.frozen 5; have y5 := G5.out.cell 5 _ rfl; have g5 := G5.out.frozen 5; have x6 := G4.out.cell 6 _ rfl; have f6 := G4.out.frozen 6; have y6 := G5.out.cell 6 _ rfl; have g6 := G5.out.frozen 6; have x7 := G4.out.cell 7 _ rfl; have f7 := G4.out.frozen 7; have y7 := G5.out.cell 7 _ rfl; have g7 := G5.out.frozen 7)
    refine bodyPost_ret (results_ans (x := ⟨Val.nil, ⟨r1, r2, r3⟩, false, 0⟩) (b := w.heap.size + 1) rfl _ rfl ?_) rfl ⟨rfl, _, ?_, HX.out⟩
    · exact Blk.store8 (((G4.out.setOther hne _).setOther hne _).setOther hne _) rfl _ _ _ _ _ _ _ _
    · exact (keepR (a := ⟨w.heap.size + 1, 7, none⟩) (keepR (a := ⟨w.heap.size + 1, 6, none⟩) (keepR (a := ⟨w.heap.size + 1, 5, none⟩) (keepR (a := ⟨w.heap.size + 1, 4, none⟩) (keepR (a := ⟨w.heap.size + 1, 3, none⟩) (keepR (a := ⟨w.heap.size + 1, 2, none⟩) (keepR (a := ⟨w.heap.size + 1, 1, none⟩) (keepR (a := ⟨w.heap.size + 1, 0, none⟩) (keepR (a := ⟨w.heap.size + 1 + 1, 5, none⟩) (keepR (a := ⟨w.heap.size + 1 + 1, 4, none⟩) (keepR (a := ⟨w.heap.size + 1 + 1, 3, none⟩) HE.out N5.out (Nat.le_add_right _ 2) _) N5.out (Nat.le_add_right _ 2) _) N5.out (Nat.le_add_right _ 2) _) N4.out (Nat.le_add_right _ 1) _) N4.out (Nat.le_add_right _ 1) _) N4.out (Nat.le_add_right _ 1) _) N4.out (Nat.le_add_right _ 1) _) N4.out (Nat.le_add_right _ 1) _) N4.out (Nat.le_add_right _ 1) _) N4.out (Nat.le_add_right _ 1) _) N4.out (Nat.le_add_right _ 1) _)
  by_cases n3 : c = 3
  · subst n3
    have e1 : doA L ⟨3, ⟨k1, k2, k3⟩, ⟨v1, v2, v3⟩⟩ = ⟨Val.nil, Val.nil, hasK L ⟨k1, k2, k3⟩, 0⟩ := rfl
    have e2 : doL L ⟨3, ⟨k1, k2, k3⟩, ⟨v1, v2, v3⟩⟩ = L := rfl
    rw [e1, e2]
    generalize hasK L ⟨k1, k2, k3⟩ = hs at *
    clear e1 e2
    have hne : w.heap.size + 1 ≠ w.heap.size + 1 + 1 := by omega
    clear C1 C2 C4 C5
    go_enter Try.func52, Try.ntmps52
    go_wp2_with (go_at_call 114; (with_reducible refine (C3.out _ (HD.out.below HB0.out)).mono ?_); rintro e w1 ⟨rfl, hb⟩; have hc := Chg.ofBelow (B := X) hb; have G4 := Lib.hid (H40.out.of (hc.block _ H40.out.lt (fun h => absurd (HT.out _ h) (by omega)))); have G5 := Lib.hid (H50.out.of (hc.block _ H50.out.lt (fun h => absurd (HT.out _ h) (by omega)))); have N4 : Hid (¬ X (w.heap.size + 1)) := Lib.hid (fun h => absurd (HT.out _ h) (by omega)); have N5 : Hid (¬ X (w.heap.size + 1 + 1)) := Lib.hid (fun h => absurd (HT.out _ h) (by omega)); have HX : Hid (∀ b, X b → X b ∨ w.heap.size ≤ b) := Lib.hid (fun b hb => .inl hb); have HE := Lib.hid (And.intro ((HD.out.below (HB0.out.trans (hb.mono HB0.out.size)))) ((Chg.ofBelow (B := X) HB0.out).trans hc (fun b _ h => h))); clear hb hc; have x0 := G4.out.cell 0 _ rfl; have f0 := G4.out.frozen 0; have y0 := G5.out.cell 0 _ rfl; have g0 := G5.out.frozen 0; have x1 := G4.out.cell 1 _ rfl; have f1 := G4.out.frozen 1; have y1 := G5.out.cell 1 _ rfl; have g1 := G5.out.frozen 1; have x2 := G4.out.cell 2 _ rfl; have f2 := G4.out.frozen 2; have y2 := G5.out.cell 2 _ rfl; have g2 := G5.out.frozen 2; have x3 := G4.out.cell 3 _ rfl; have f3 := G4.out.frozen 3; have y3 := G5.out.cell 3 _ rfl; have g3 := G5.out.frozen 3; have x4 := G4.out.cell 4 _ rfl; have f4 := G4.out.frozen 4; have y4 := G5.out.cell 4 _ rfl; have g4 := G5.out.frozen 4; have x5 := G4.out.cell 5 _ rfl; have f5 := G4.out.frozen 5; have y5 := G5.out.cell 5 _ rfl; have g5 := G5.out.frozen 5; have x6 := G4.out.cell 6 _ rfl; have f6 := G4.out.frozen 6; have y6 := G5.out.cell 6 _ rfl; have g6 := G5.out.frozen 6; have x7 := G4.out.cell 7 _ rfl; have f7 := G4.out.frozen 7; have y7 := G5.out.cell 7 _ rfl; have g7 := G5.out.frozen 7)
    refine bodyPost_ret (results_ans (x := ⟨Val.nil, Val.nil, hs, 0⟩) (b := w.heap.size + 1) rfl _ rfl ?_) rfl ⟨rfl, _, ?_, HX.out⟩
    · exact Blk.store8 (G4.out.setOther hne _) rfl _ _ _ _ _ _ _ _
    · exact (keepR (a := ⟨w.heap.size + 1, 7, none⟩) (keepR (a := ⟨w.heap.size + 1, 6, none⟩) (keepR (a := ⟨w.heap.size + 1, 5, none⟩) (keepR (a := ⟨w.heap.size + 1, 4, none⟩) (keepR (a := ⟨w.heap.size + 1, 3, none⟩) (keepR (a := ⟨w.heap.size + 1, 2, none⟩) (keepR (a := ⟨w.heap.size + 1, 1, none⟩) (keepR (a := ⟨w.heap.size + 1, 0, none⟩) (keepR (a := ⟨w.heap.size + 1 + 1, 6, none⟩) HE.out N5.out (Nat.le_add_right _ 2) _) N4.out (Nat.le_add_right _ 1) _) N4.out (Nat.le_add_right _ 1) _) N4.out (Nat.le_add_right _ 1) _) N4.out (Nat.le_add_right _ 1) _) N4.out (Nat.le_add_right _ 1) _) N4.out (Nat.le_add_right _ 1) _) N4.out (Nat.le_add_right _ 1) _) N4.out (Nat.le_add_right _ 1) _)
  by_cases n4 : c = 4
  · subst n4
    have e1 : doA L ⟨4, ⟨k1, k2, k3⟩, ⟨v1, v2, v3⟩⟩ = ⟨Val.nil, Val.nil, hasK L ⟨k1, k2, k3⟩, 0⟩ := rfl
    have e2 : doL L ⟨4, ⟨k1, k2, k3⟩, ⟨v1, v2, v3⟩⟩ = (if hasK L ⟨k1, k2, k3⟩ then dropA L (keyV ⟨k1, k2, k3⟩) else L) := rfl
    rw [e1, e2]
    generalize (if hasK L ⟨k1, k2, k3⟩ then dropA L (keyV ⟨k1, k2, k3⟩) else L) = dl at *
    generalize hasK L ⟨k1, k2, k3⟩ = hs at *
    clear e1 e2
    have hne : w.heap.size + 1 ≠ w.heap.size + 1 + 1 := by omega
    clear C1 C2 C3 C5
    go_enter Try.func52, Try.ntmps52
    go_wp2_with (go_at_call 115; (with_reducible refine (C4.out _ (HD.out.below HB0.out)).mono ?_); rintro e w1 ⟨rfl, X', hr, hX, hc⟩; have G4 := Lib.hid (H40.out.of (hc.block _ H40.out.lt (fun h => absurd (HT.out _ h) (by omega)))); have G5 := Lib.hid (H50.out.of (hc.block _ H50.out.lt (fun h => absurd (HT.out _ h) (by omega)))); have N4 : Hid (¬ X' (w.heap.size + 1)) := Lib.hid (fun h => (hX _ h).elim (fun h => absurd (HT.out _ h) (by omega)) (fun h => by simp at h <;> omega)); have N5 : Hid (¬ X' (w.heap.size + 1 + 1)) := Lib.hid (fun h => (hX _ h).elim (fun h => absurd (HT.out _ h) (by omega)) (fun h => by simp at h <;> omega)); have HX : Hid (∀ b, X' b → X b ∨ w.heap.size ≤ b) := Lib.hid (fun b hb => (hX b hb).elim .inl (fun h => .inr (Nat.le_trans HB0.out.size h))); have HE := Lib.hid (And.intro hr ((Chg.ofBelow (B := X) HB0.out).trans hc (fun b _ h => h))); clear hr hX hc; have x0 := G4.out.cell 0 _ rfl; have f0 := G4.out.frozen 0; have y0 := G5.out.cell 0 _ rfl; have g0 := G5.out.frozen 0; have x1 := G4.out.cell 1 _ rfl; have f1 := G4.out.frozen 1; have y1 := G5.out.cell 1 _ rfl; have g1 := G5.out.frozen 1; have x2 := G4.out.cell 2 _ rfl; have f2 := G4.out.frozen 2; have y2 := G5.out.cell 2 _ rfl; have g2 := G5.out.frozen 2; have x3 := G4.out.cell 3 _ rfl; have f3 := G4.out.frozen 3; have y3 := G5.out.cell 3 _ rfl; have g3 := G5.out.frozen 3; have x4 := G4.out.cell 4 _ rfl; have f4 := G4.out.frozen 4; have y4 := G5.out.cell 4 _ rfl; have g4 := G5.out.frozen 4; have x5 := G4.out.cell 5 _ rfl; have f5 := G4.out.frozen 5; have y5 := G5.out.cell 5 _ rfl; have g5 := G5.out.frozen 5; have x6 := G4.out.cell 6 _ rfl; have f6 := G4.out.frozen 6; have y6 := G5.out.cell 6 _ rfl; have g6 := G5.out.frozen 6; have x7 := G4.out.cell 7 _ rfl; have f7 := G4.out.frozen 7; have y7 := G5.out.cell 7 _ rfl; have g7 := G5.out.frozen 7)
    refine bodyPost_ret (results_ans (x := ⟨Val.nil, Val.nil, hs, 0⟩) (b := w.heap.size + 1) rfl _ rfl ?_) rfl ⟨rfl, _, ?_, HX.out⟩
    · exact Blk.store8 (G4.out.setOther hne _) rfl _ _ _ _ _ _ _ _
    · exact (keepR (a := ⟨w.heap.size + 1, 7, none⟩) (keepR (a := ⟨w.heap.size + 1, 6, none⟩) (keepR (a := ⟨w.heap.size + 1, 5, none⟩) (keepR (a := ⟨w.heap.size + 1, 4, none⟩) (keepR (a := ⟨w.heap.size + 1, 3, none⟩) (keepR (a := ⟨w.heap.size + 1, 2, none⟩) (keepR (a := ⟨w.heap.size + 1, 1, none⟩) (keepR (a := ⟨w.heap.size + 1, 0, none⟩) (keepR (a := ⟨w.heap.size + 1 + 1, 6, none⟩) HE.out N5.out (Nat.le_add_right _ 2) _) N4.out (Nat.le_add_right _ 1) _) N4.out (Nat.le_add_right _ 1) _) N4.out (Nat.le_add_right _ 1) _) N4.out (Nat.le_add_right _ 1) _) N4.out (Nat.le_add_right _ 1) _) N4.out (Nat.le_add_right _ 1) _) N4.out (Nat.le_add_right _ 1) _) N4.out (Nat.le_add_right _ 1) _)
  by_cases n5 : c = 5
  · subst n5
    have e1 : doA L ⟨5, ⟨k1, k2, k3⟩, ⟨v1, v2, v3⟩⟩ = ⟨(nextM L ⟨k1, k2, k3⟩).1.1, (nextM L ⟨k1, k2, k3⟩).1.2, false, (nextM L ⟨k1, k2, k3⟩).2⟩ := rfl
    have e2 : doL L ⟨5, ⟨k1, k2, k3⟩, ⟨v1, v2, v3⟩⟩ = L := rfl
    rw [e1, e2]
    generalize nextM L ⟨k1, k2, k3⟩ = nx at *
    obtain ⟨⟨⟨r1, r2, r3⟩, ⟨s1, s2, s3⟩⟩, ne⟩ := nx
    clear e1 e2
    have hne : w.heap.size + 1 ≠ w.heap.size + 1 + 1 := by omega
    clear C1 C2 C3 C4
    go_enter Try.func52, Try.ntmps52
    go_wp2_with (go_at_call 116; (with_reducible refine (C5.out _ (HD.out.below HB0.out)).mono ?_); rintro e w1 ⟨rfl, hb⟩; have hc := Chg.ofBelow (B := X) hb; have G4 := Lib.hid (H40.out.of (hc.block _ H40.out.lt (fun h => absurd (HT.out _ h) (by omega)))); have G5 := Lib.hid (H50.out.of (hc.block _ H50.out.lt (fun h => absurd (HT.out _ h) (by omega)))); have N4 : Hid (¬ X (w.heap.size + 1)) := Lib.hid (fun h => absurd (HT.out _ h) (by omega)); have N5 : Hid (¬ X (w.heap.size + 1 + 1)) := Lib.hid (fun h => absurd (HT.out _ h) (by omega)); have HX : Hid (∀ b, X b → X b ∨ w.heap.size ≤ b) := Lib.hid (fun b hb => .inl hb); have HE := Lib.hid (And.intro ((HD.out.below (HB0.out.trans (hb.mono HB0.out.size)))) ((Chg.ofBelow (B := X) HB0.out).trans hc (fun b _ h => h))); clear hb hc; have x0 := G4.out.cell 0 _ rfl; have f0 := G4.out.frozen 0; have y0 := G5.out.cell 0 _ rfl; have g0 := G5.out.frozen 0; have x1 := G4.out.cell 1 _ rfl; have f1 := G4.out.frozen 1; have y1 := G5.out.cell 1 _ rfl; have g1 := G5.out.frozen 1; have x2 := G4.out.cell 2 _ rfl; have f2 := G4.out.frozen 2; have y2 := G5.out.cell 2 _ rfl; have g2 := G5.out.frozen 2; have x3 := G4.out.cell 3 _ rfl; have f3 := G4.out.frozen 3; have y3 := G5.out.cell 3 _ rfl; have g3 := G5.out.frozen 3; have x4 := G4.out.cell 4 _ rfl; have f4 := G4.out.frozen 4; have y4 := G5.out.cell 4 _ rfl; have g4 := G5.out.frozen 4; have x5 := G4.out.cell 5 _ rfl; have f5 := G4.out.frozen 5; have y5 := G5.out.cell 5 _ rfl; have g5 := G5.out.frozen 5; have x6 := G4.out.cell 6 _ rfl; have f6 := G4.out.frozen 6; have y6 := G5.out.cell 6 _ rfl; have g6 := G5.out.frozen 6; have x7 := G4.out.cell 7 _ rfl; have f7 := G4.out.frozen 7; have y7 := G5.out.cell 7 _ rfl; have g7 := G5.out.frozen 7)
    refine bodyPost_ret (results_ans (x := ⟨⟨r1, r2, r3⟩, ⟨s1, s2, s3⟩, false, ne⟩) (b := w.heap.size + 1) rfl _ rfl ?_) rfl ⟨rfl, _, ?_, HX.out⟩
    · exact Blk.store8 (((((((G4.out.setOther hne _).setOther hne _).setOther hne _).setOther hne _).setOther hne _).setOther hne _).setOther hne _) rfl _ _ _ _ _ _ _ _
    · exact (keepR (a := ⟨w.heap.size + 1, 7, none⟩) (keepR (a := ⟨w.heap.size + 1, 6, none⟩) (keepR (a := ⟨w.heap.size + 1, 5, none⟩) (keepR (a := ⟨w.heap.size + 1, 4, none⟩) (keepR (a := ⟨w.heap.size + 1, 3, none⟩) (keepR (a := ⟨w.heap.size + 1, 2, none⟩) (keepR (a := ⟨w.heap.size + 1, 1, none⟩) (keepR (a := ⟨w.heap.size + 1, 0, none⟩) (keepR (a := ⟨w.heap.size + 1 + 1, 7, none⟩) (keepR (a := ⟨w.heap.size + 1 + 1, 5, none⟩) (keepR (a := ⟨w.heap.size + 1 + 1, 4, none⟩) (keepR (a := ⟨w.heap.size + 1 + 1, 3, none⟩) (keepR (a := ⟨w.heap.size + 1 + 1, 2, none⟩) (keepR (a := ⟨w.heap.size + 1 + 1, 1, none⟩) (keepR (a := ⟨w.heap.size + 1 + 1, 0, none⟩) HE.out N5.out (Nat.le_add_right _ 2) _) N5.out (Nat.le_add_right _ 2) _) N5.out (Nat.le_add_right _ 2) _) N5.out (Nat.le_add_right _ 2) _) N5.out (Nat.le_add_right _ 2) _) N5.out (Nat.le_add_right _ 2) _) N5.out (Nat.le_add_right _ 2) _) N4.out (Nat.le_add_right _ 1) _) N4.out (Nat.le_add_right _ 1) _) N4.out (Nat.le_add_right _ 1) _) N4.out (Nat.le_add_right _ 1) _) N4.out (Nat.le_add_right _ 1) _) N4.out (Nat.le_add_right _ 1) _) N4.out (Nat.le_add_right _ 1) _) N4.out (Nat.le_add_right _ 1) _)
  · skip
    have e1 : doA L ⟨c, ⟨k1, k2, k3⟩, ⟨v1, v2, v3⟩⟩ = ⟨Val.nil, Val.nil, false, 0⟩ := by simp [doA, n1, n2, n3, n4, n5]
    have e2 : doL L ⟨c, ⟨k1, k2, k3⟩, ⟨v1, v2, v3⟩⟩ = L := by simp [doL, n1, n4]
    rw [e1, e2]
    have n1 : (c == 1) = false := by simp [n1]
    have n2 : (c == 2) = false := by simp [n2]
    have n3 : (c == 3) = false := by simp [n3]
    have n4 : (c == 4) = false := by simp [n4]
    have n5 : (c == 5) = false := by simp [n5]
    have N4 : Hid (¬ X (w.heap.size + 1)) := Lib.hid (fun h => absurd (HT.out _ h) (by omega))
    have N5 : Hid (¬ X (w.heap.size + 1 + 1)) := Lib.hid (fun h => absurd (HT.out _ h) (by omega))
    have HX : Hid (∀ b, X b → X b ∨ w.heap.size ≤ b) := Lib.hid (fun b hb => .inl hb)
    have HE := Lib.hid (And.intro ((HD.out.below HB0.out)) (Chg.ofBelow (B := X) HB0.out))
    clear e1 e2
    have hne : w.heap.size + 1 ≠ w.heap.size + 1 + 1 := by omega
    clear C1 C2 C3 C4 C5
    go_enter Try.func52, Try.ntmps52
    go_wp2_with fail
    refine bodyPost_ret (results_ans (x := ⟨Val.nil, Val.nil, false, 0⟩) (b := w.heap.size + 1) rfl _ rfl ?_) rfl ⟨rfl, _, ?_, HX.out⟩
    · exact H40.out
    · exact HE.out
end
end Go.Proofs.Ytmjfmfelbmbniaa
