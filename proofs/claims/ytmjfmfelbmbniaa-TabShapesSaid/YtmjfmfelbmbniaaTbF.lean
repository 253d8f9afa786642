/- Layer 14: the law TabShapes. -/
import Derived.Test.YtmjfmfelbmbniaaTbE
import Derived.Test.YtmjfmfelbmbniaaTaW
namespace Go.Proofs.Ytmjfmfelbmbniaa
open Go.RowKit Go.Maps HK ShM
set_option linter.unusedVariables false
set_option linter.unusedSimpArgs false
open RH
def findRs (n : Nat) : Code → Option (Array Oper)
  | .region m o _ => if m = n then some o else none
  | .seq a b => (findRs n a).or (findRs n b)
  | .cond _ a b => (findRs n a).or (findRs n b)
  | .block _ a => findRs n a
  | .loop a => findRs n a
  | .scope a => findRs n a
  | _ => none
/-- The operations of a function's region. -/
def regOs (f : Func) (n : Nat) : Array Oper := ((f.body.bind (findRs n)).getD #[])
set_option maxHeartbeats 16000000 in
set_option maxRecDepth 20000 in
theorem ts_reg10 {w w5 : World} {sb tb ub ob N : Nat} {dp fn oc on k1 k2 v1 v2 a1 a2 b1 b2 an ae ln : Int} {k3 v3 a3 b3 : ByteArray} {ai : Bool} {T T' : List Sh} {s s' t t' : Tab} {Q : Exit → Act → World → Prop} {u0 u1 u2 u3 u4 u5 u6 u9 u11 u12 u13 u14 u15 u16 u17 u18 u19 u20 u21 u22 u23 u24 u25 u26 u27 u28 u29 u30 u31 u32 u33 u34 u35 u36 u37 u38 u39 u40 u41 u42 u43 u44 u45 u46 u47 u48 u49 u50 u51 : Value} (HD1 : Hid (∀ W : World, DD w W (some ⟨sb, 0, none⟩) dp fn T N [(tb, .pointer none, s)] [(ob, 130, [.int .i64 oc, .int .i64 on, .int .i64 k1, .int .i64 k2, .string k3, .int .i64 v1, .int .i64 v2, .string v3])] N [(ub, .pointer none, t)] → Calls Try.prog 86 #[.pointer (some ⟨tb, 0, none⟩), .agg #[.int .i64 oc, .int .i64 on, .int .i64 k1, .int .i64 k2, .string k3, .int .i64 v1, .int .i64 v2, .string v3]] W fun e w' => e = .returned (.agg #[.int .i64 a1, .int .i64 a2, .string a3, .int .i64 b1, .int .i64 b2, .string b3, .int .i64 an, .int .i64 ae, .bool ai]) ∧ DD w w' (some ⟨sb, 0, none⟩) dp fn T' (N + 1) [(tb, .pointer none, s')] [(ob, 130, [.int .i64 oc, .int .i64 on, .int .i64 k1, .int .i64 k2, .string k3, .int .i64 v1, .int .i64 v2, .string v3])] N [(ub, .pointer none, t)]))
    (HD2 : Hid (∀ W : World, DD w W (some ⟨sb, 0, none⟩) dp fn T' (N + 1) [(tb, .pointer none, s')] [(ob, 130, [.int .i64 oc, .int .i64 on, .int .i64 k1, .int .i64 k2, .string k3, .int .i64 v1, .int .i64 v2, .string v3])] N [(ub, .pointer none, t)] → Calls Try.prog 86 #[.pointer (some ⟨ub, 0, none⟩), .agg #[.int .i64 oc, .int .i64 on, .int .i64 k1, .int .i64 k2, .string k3, .int .i64 v1, .int .i64 v2, .string v3]] W fun e w' => e = .returned (.agg #[.int .i64 a1, .int .i64 a2, .string a3, .int .i64 b1, .int .i64 b2, .string b3, .int .i64 an, .int .i64 ae, .bool ai]) ∧ DD w w' (some ⟨sb, 0, none⟩) dp fn T' (N + 1) [(tb, .pointer none, s')] [(ob, 130, [.int .i64 oc, .int .i64 on, .int .i64 k1, .int .i64 k2, .string k3, .int .i64 v1, .int .i64 v2, .string v3])] (N + 1) [(ub, .pointer none, t')]))
    (HL1 : Hid (∀ W : World, DD w W (some ⟨sb, 0, none⟩) dp fn T' (N + 1) [(tb, .pointer none, s')] [(ob, 130, [.int .i64 oc, .int .i64 on, .int .i64 k1, .int .i64 k2, .string k3, .int .i64 v1, .int .i64 v2, .string v3])] (N + 1) [(ub, .pointer none, t')] → Calls Try.prog 72 #[.pointer (some ⟨tb, 0, none⟩)] W fun e w' => e = .returned (.int .i64 ln) ∧ Below W.heap.size W w')) (HL2 : Hid (∀ W : World, DD w W (some ⟨sb, 0, none⟩) dp fn T' (N + 1) [(tb, .pointer none, s')] [(ob, 130, [.int .i64 oc, .int .i64 on, .int .i64 k1, .int .i64 k2, .string k3, .int .i64 v1, .int .i64 v2, .string v3])] (N + 1) [(ub, .pointer none, t')] → Calls Try.prog 72 #[.pointer (some ⟨ub, 0, none⟩)] W fun e w' => e = .returned (.int .i64 ln) ∧ Below W.heap.size W w'))
    (D5 : Hid (DD w w5 (some ⟨sb, 0, none⟩) dp fn T N [(tb, .pointer none, s)] [(ob, 130, [.int .i64 oc, .int .i64 on, .int .i64 k1, .int .i64 k2, .string k3, .int .i64 v1, .int .i64 v2, .string v3])] N [(ub, .pointer none, t)])) (HP : ∀ c (a : Act) (d : Nat) v w, Q (.panic c) (a.put (some d) v) w → Q (.panic c) a w)
    (HQ : ∀ w6, Hid (DD w w6 (some ⟨sb, 0, none⟩) dp fn T' (N + 1) [(tb, .pointer none, s')] [(ob, 130, [.int .i64 oc, .int .i64 on, .int .i64 k1, .int .i64 k2, .string k3, .int .i64 v1, .int .i64 v2, .string v3])] (N + 1) [(ub, .pointer none, t')]) → ∀ (v29 v30 v31 v32 v33 v34 v35 v36 v37 v38 v39 v40 v41 : Value), Q .normal ⟨#[u0, u1, u2, u3, u4, u5, u6, .pointer (some ⟨tb, 0, none⟩), .pointer (some ⟨ub, 0, none⟩), u9, .pointer (some ⟨ob, 0, none⟩), u11, u12, u13, u14, u15, u16, u17, u18, u19, u20, u21, u22, u23, u24, u25, u26, u27, u28, v29, v30, v31, v32, v33, v34, v35, v36, v37, v38, v39, v40, v41, .bool false, u43, u44, u45, u46, u47, u48, u49, u50, u51], []⟩ w6) : (Code.region 10 (regOs Try.f19 10) true).wp Try.prog Q ⟨#[u0, u1, u2, u3, u4, u5, u6, .pointer (some ⟨tb, 0, none⟩), .pointer (some ⟨ub, 0, none⟩), u9, .pointer (some ⟨ob, 0, none⟩), u11, u12, u13, u14, u15, u16, u17, u18, u19, u20, u21, u22, u23, u24, u25, u26, u27, u28, u29, u30, u31, u32, u33, u34, u35, u36, u37, u38, u39, u40, u41, u42, u43, u44, u45, u46, u47, u48, u49, u50, u51], []⟩ w5 := by
  simp only [regOs, Try.f19, findRs, Option.bind_some, Option.getD_some, Option.none_or, Option.some_or, Option.or_none, reduceCtorEq, if_false, if_true, Nat.reduceEqDiff]
  have BLd : Below w5.heap.size w5 ({ w5 with drawn := w5.drawn + 1 } : World) := ⟨rfl, rfl, rfl, Nat.le_refl _, fun _ _ => rfl⟩
  have Dd := Lib.hid (D5.out.below BLd)
  refine wp_region_held (S := fun W : World => Blk W (ob) 130 [.int .i64 oc, .int .i64 on, .int .i64 k1, .int .i64 k2, .string k3, .int .i64 v1, .int .i64 v2, .string v3] ∧ True) (by kernel_rfl) ?_
  generalize ({ w5 with drawn := w5.drawn + 1 } : World) = wd at BLd Dd ⊢
  have hSd : (fun W : World => Blk W (ob) 130 [.int .i64 oc, .int .i64 on, .int .i64 k1, .int .i64 k2, .string k3, .int .i64 v1, .int .i64 v2, .string v3] ∧ True) wd := ⟨Dd.out.blk (c := (ob, 130, [.int .i64 oc, .int .i64 on, .int .i64 k1, .int .i64 k2, .string k3, .int .i64 v1, .int .i64 v2, .string v3])) (by simp), trivial⟩
  have oxd0 : ∀ W : World, (Blk W (ob) 130 [.int .i64 oc, .int .i64 on, .int .i64 k1, .int .i64 k2, .string k3, .int .i64 v1, .int .i64 v2, .string v3] ∧ True) → W.cell? ⟨ob, 0, none⟩ = some (.int .i64 oc) := fun W hW => hW.1.cell 0 _ rfl
  have oxd1 : ∀ W : World, (Blk W (ob) 130 [.int .i64 oc, .int .i64 on, .int .i64 k1, .int .i64 k2, .string k3, .int .i64 v1, .int .i64 v2, .string v3] ∧ True) → W.cell? ⟨ob, 1, none⟩ = some (.int .i64 on) := fun W hW => hW.1.cell 1 _ rfl
  have oxd2 : ∀ W : World, (Blk W (ob) 130 [.int .i64 oc, .int .i64 on, .int .i64 k1, .int .i64 k2, .string k3, .int .i64 v1, .int .i64 v2, .string v3] ∧ True) → W.cell? ⟨ob, 2, none⟩ = some (.int .i64 k1) := fun W hW => hW.1.cell 2 _ rfl
  have oxd3 : ∀ W : World, (Blk W (ob) 130 [.int .i64 oc, .int .i64 on, .int .i64 k1, .int .i64 k2, .string k3, .int .i64 v1, .int .i64 v2, .string v3] ∧ True) → W.cell? ⟨ob, 3, none⟩ = some (.int .i64 k2) := fun W hW => hW.1.cell 3 _ rfl
  have oxd4 : ∀ W : World, (Blk W (ob) 130 [.int .i64 oc, .int .i64 on, .int .i64 k1, .int .i64 k2, .string k3, .int .i64 v1, .int .i64 v2, .string v3] ∧ True) → W.cell? ⟨ob, 4, none⟩ = some (.string k3) := fun W hW => hW.1.cell 4 _ rfl
  have oxd5 : ∀ W : World, (Blk W (ob) 130 [.int .i64 oc, .int .i64 on, .int .i64 k1, .int .i64 k2, .string k3, .int .i64 v1, .int .i64 v2, .string v3] ∧ True) → W.cell? ⟨ob, 5, none⟩ = some (.int .i64 v1) := fun W hW => hW.1.cell 5 _ rfl
  have oxd6 : ∀ W : World, (Blk W (ob) 130 [.int .i64 oc, .int .i64 on, .int .i64 k1, .int .i64 k2, .string k3, .int .i64 v1, .int .i64 v2, .string v3] ∧ True) → W.cell? ⟨ob, 6, none⟩ = some (.int .i64 v2) := fun W hW => hW.1.cell 6 _ rfl
  have oxd7 : ∀ W : World, (Blk W (ob) 130 [.int .i64 oc, .int .i64 on, .int .i64 k1, .int .i64 k2, .string k3, .int .i64 v1, .int .i64 v2, .string v3] ∧ True) → W.cell? ⟨ob, 7, none⟩ = some (.string v3) := fun W hW => hW.1.cell 7 _ rfl
  refine takeH 0 (oi := ⟨some 29, _, _, _, _, _⟩) (v := ?_) rfl (by kernel_rfl) (by kernel_rfl) (by kernel_rfl) (fun c _ w h => HP c _ _ _ w h) (Or.inl ⟨by rfl, ?_⟩) hSd ?_
  rotate_left
  · (intro W hW; (try dsimp only at hW); go_simp; try with_reducible rfl)
  try (conv in (Act.put _ _ _) => simp only [Act.put, List.setIfInBounds_toArray, List.set_cons_zero, List.set_cons_succ])
  refine takeH 1 (oi := ⟨some 30, _, _, _, _, _⟩) (v := ?_) rfl (by kernel_rfl) (by kernel_rfl) (by kernel_rfl) (fun c _ w h => HP c _ _ _ w h) (Or.inl ⟨by rfl, ?_⟩) hSd ?_
  rotate_left
  · (intro W hW; (try dsimp only at hW); go_simp; try with_reducible rfl)
  try (conv in (Act.put _ _ _) => simp only [Act.put, List.setIfInBounds_toArray, List.set_cons_zero, List.set_cons_succ])
  refine takeH 3 (oi := ⟨some 32, _, _, _, _, _⟩) (v := ?_) rfl (by kernel_rfl) (by kernel_rfl) (by kernel_rfl) (fun c _ w h => HP c _ _ _ w h) (Or.inl ⟨by rfl, ?_⟩) hSd ?_
  rotate_left
  · (intro W hW; (try dsimp only at hW); go_simp; try with_reducible rfl)
  try (conv in (Act.put _ _ _) => simp only [Act.put, List.setIfInBounds_toArray, List.set_cons_zero, List.set_cons_succ])
  refine takeH 4 (oi := ⟨some 33, _, _, _, _, _⟩) (v := ?_) rfl (by kernel_rfl) (by kernel_rfl) (by kernel_rfl) (fun c _ w h => HP c _ _ _ w h) (Or.inl ⟨by rfl, ?_⟩) hSd ?_
  rotate_left
  · (intro W hW; (try dsimp only at hW); go_simp; try with_reducible rfl)
  try (conv in (Act.put _ _ _) => simp only [Act.put, List.setIfInBounds_toArray, List.set_cons_zero, List.set_cons_succ])
  refine one (i := 2) (by kernel_rfl) ?_
  refine wpOp_wanted rfl (by rfl) fun K hK => ?_
  go_simp
  with_reducible refine (HD1.out _ Dd.out).mono ?_
  rintro e wd5 ⟨rfl, hh⟩
  have Dd5 := Lib.hid (hh)
  clear hh
  have Sd5 : (fun W : World => Blk W (ob) 130 [.int .i64 oc, .int .i64 on, .int .i64 k1, .int .i64 k2, .string k3, .int .i64 v1, .int .i64 v2, .string v3] ∧ True) wd5 := ⟨Dd5.out.blk (c := (ob, 130, [.int .i64 oc, .int .i64 on, .int .i64 k1, .int .i64 k2, .string k3, .int .i64 v1, .int .i64 v2, .string v3])) (by simp), trivial⟩
  refine hK _ _ ⟨Sd5, ?_⟩
  clear hK K
  try (conv in (Act.put _ _ _) => simp only [Act.put, List.setIfInBounds_toArray, List.set_cons_zero, List.set_cons_succ])
  refine one (i := 5) (by kernel_rfl) ?_
  refine wpOp_wanted rfl (by rfl) fun K hK => ?_
  go_simp
  with_reducible refine (HD2.out _ Dd5.out).mono ?_
  rintro e wd6 ⟨rfl, hh⟩
  have Dd6 := Lib.hid (hh)
  clear hh
  have Sd6 : (fun W : World => Blk W (ob) 130 [.int .i64 oc, .int .i64 on, .int .i64 k1, .int .i64 k2, .string k3, .int .i64 v1, .int .i64 v2, .string v3] ∧ True) wd6 := ⟨Dd6.out.blk (c := (ob, 130, [.int .i64 oc, .int .i64 on, .int .i64 k1, .int .i64 k2, .string k3, .int .i64 v1, .int .i64 v2, .string v3])) (by simp), trivial⟩
  refine hK _ _ ⟨Sd6, ?_⟩
  clear hK K
  try (conv in (Act.put _ _ _) => simp only [Act.put, List.setIfInBounds_toArray, List.set_cons_zero, List.set_cons_succ])
  refine takeH 6 (oi := ⟨some 35, _, _, _, _, _⟩) (v := ?_) rfl (by kernel_rfl) (by kernel_rfl) (by kernel_rfl) (fun c _ w h => HP c _ _ _ w h) (Or.inl ⟨by rfl, ?_⟩) Sd6 ?_
  rotate_left
  · (intro W hW; (try dsimp only at hW); go_simp; try with_reducible rfl)
  try (conv in (Act.put _ _ _) => simp only [Act.put, List.setIfInBounds_toArray, List.set_cons_zero, List.set_cons_succ])
  refine takeH 7 (oi := ⟨some 36, _, _, _, _, _⟩) (v := ?_) rfl (by kernel_rfl) (by kernel_rfl) (by kernel_rfl) (fun c _ w h => HP c _ _ _ w h) (Or.inl ⟨by rfl, ?_⟩) Sd6 ?_
  rotate_left
  · (intro W hW; (try dsimp only at hW); go_simp; try with_reducible rfl)
  try (conv in (Act.put _ _ _) => simp only [Act.put, List.setIfInBounds_toArray, List.set_cons_zero, List.set_cons_succ])
  refine takeH 8 (oi := ⟨some 37, _, _, _, _, _⟩) (v := ?_) rfl (by kernel_rfl) (by kernel_rfl) (by kernel_rfl) (fun c _ w h => HP c _ _ _ w h) (Or.inl ⟨by rfl, ?_⟩) Sd6 ?_
  rotate_left
  · (intro W hW; (try dsimp only at hW); go_simp; try with_reducible rfl)
  try (conv in (Act.put _ _ _) => simp only [Act.put, List.setIfInBounds_toArray, List.set_cons_zero, List.set_cons_succ])
  refine takeH 10 (oi := ⟨some 39, _, _, _, _, _⟩) (v := ?_) rfl (by kernel_rfl) (by kernel_rfl) (by kernel_rfl) (fun c _ w h => HP c _ _ _ w h) (Or.inl ⟨by rfl, ?_⟩) Sd6 ?_
  rotate_left
  · (intro W hW; (try dsimp only at hW); go_simp; try with_reducible rfl)
  try (conv in (Act.put _ _ _) => simp only [Act.put, List.setIfInBounds_toArray, List.set_cons_zero, List.set_cons_succ])
  refine one (i := 9) (by kernel_rfl) ?_
  refine wpOp_wanted rfl (by rfl) fun K hK => ?_
  go_simp
  with_reducible refine (HL1.out _ Dd6.out).mono ?_
  rintro e wd11 ⟨rfl, hb⟩
  have Dd11 := Lib.hid (Dd6.out.below hb)
  clear hb
  have Sd11 : (fun W : World => Blk W (ob) 130 [.int .i64 oc, .int .i64 on, .int .i64 k1, .int .i64 k2, .string k3, .int .i64 v1, .int .i64 v2, .string v3] ∧ True) wd11 := ⟨Dd11.out.blk (c := (ob, 130, [.int .i64 oc, .int .i64 on, .int .i64 k1, .int .i64 k2, .string k3, .int .i64 v1, .int .i64 v2, .string v3])) (by simp), trivial⟩
  refine hK _ _ ⟨Sd11, ?_⟩
  clear hK K
  try (conv in (Act.put _ _ _) => simp only [Act.put, List.setIfInBounds_toArray, List.set_cons_zero, List.set_cons_succ])
  refine one (i := 11) (by kernel_rfl) ?_
  refine wpOp_wanted rfl (by rfl) fun K hK => ?_
  go_simp
  with_reducible refine (HL2.out _ Dd11.out).mono ?_
  rintro e wd12 ⟨rfl, hb⟩
  have Dd12 := Lib.hid (Dd11.out.below hb)
  clear hb
  have Sd12 : (fun W : World => Blk W (ob) 130 [.int .i64 oc, .int .i64 on, .int .i64 k1, .int .i64 k2, .string k3, .int .i64 v1, .int .i64 v2, .string v3] ∧ True) wd12 := ⟨Dd12.out.blk (c := (ob, 130, [.int .i64 oc, .int .i64 on, .int .i64 k1, .int .i64 k2, .string k3, .int .i64 v1, .int .i64 v2, .string v3])) (by simp), trivial⟩
  refine hK _ _ ⟨Sd12, ?_⟩
  clear hK K
  try (conv in (Act.put _ _ _) => simp only [Act.put, List.setIfInBounds_toArray, List.set_cons_zero, List.set_cons_succ])
  refine takeH 12 (oi := ⟨some 41, _, _, _, _, _⟩) (v := ?_) rfl (by kernel_rfl) (by kernel_rfl) (by kernel_rfl) (fun c _ w h => HP c _ _ _ w h) (Or.inl ⟨by rfl, ?_⟩) Sd12 ?_
  rotate_left
  · (intro W hW; (try dsimp only at hW); go_simp; try with_reducible rfl)
  try (conv in (Act.put _ _ _) => simp only [Act.put, List.setIfInBounds_toArray, List.set_cons_zero, List.set_cons_succ])
  refine takeH 13 (oi := ⟨some 42, _, _, _, _, _⟩) (v := ?_) rfl (by kernel_rfl) (by kernel_rfl) (by kernel_rfl) (fun c _ w h => HP c _ _ _ w h) (Or.inl ⟨by rfl, ?_⟩) Sd12 ?_
  rotate_left
  · (intro W hW; (try dsimp only at hW); go_simp; try with_reducible rfl)
  try (conv in (Act.put _ _ _) => simp only [Act.put, List.setIfInBounds_toArray, List.set_cons_zero, List.set_cons_succ])
  refine wpAnyH_done (by kernel_rfl) ?_ _
  clear oxd0 oxd1 oxd2 oxd3 oxd4 oxd5 oxd6 oxd7
  exact HQ _ Dd12 _ _ _ _ _ _ _ _ _ _ _ _ _
theorem toBel' {f : Nat} {args : Array Value} {v : Value} {W : World} (h : Calls Try.prog f args W (fun e w' => e = .returned v ∧ W = w')) : Calls Try.prog f args W (fun e w' => e = .returned v ∧ Below W.heap.size W w') := h.mono (fun e w' h => ⟨h.1, by rw [← h.2]; exact Below.refl _ _⟩)
set_option maxHeartbeats 16000000 in
set_option maxRecDepth 20000 in
theorem tshapes_walk (deep fan : Int) (lv : Value) (l : List OpT) (w : World) (hl : RdT14 w lv l) : Calls Try.prog 19 #[.int .i64 deep, .int .i64 fan, lv] w fun e w' => e = .returned (.bool true) ∧ Below w.heap.size w w' := by
  have HAL := Lib.hid (fun (W : World) => talive_calls W)
  have HGR := Lib.hid (fun (W : World) (h : RdT14 W lv l) => tgreat_calls lv l W h)
  obtain ⟨dp, hdp⟩ : ∃ d, d = min (max deep 0) 64 := ⟨_, rfl⟩
  obtain ⟨fn, hfn⟩ : ∃ d, d = min (max fan 0) 64 := ⟨_, rfl⟩
  have HNT := Lib.hid (fun (W : World) (h : Below w.heap.size w W) => show Calls Try.prog 61 #[.int .i64 deep, .int .i64 fan, .slice none 0 0] W fun e w' => ∃ sb, e = .returned (.pointer (some ⟨sb, 0, none⟩)) ∧ TL w w' (fun _ => False) (some ⟨sb, 0, none⟩) dp fn T0 0 [] [] ∧ Below W.heap.size W w' from by
    rw [hdp, hfn]
    exact TL.newTree deep fan (.slice none 0 0) [] w W h (RdS.none W) (fun s hs => by cases hs) (fun b hb => hb.elim))
  clear hdp hfn
  have HL := Lib.hid hl
  obtain ⟨a1, c1, rfl, q1, q2, q3, _⟩ := hl
  obtain ⟨n1, hn1⟩ : ∃ n, n = l.length := ⟨_, rfl⟩
  have E1 := Lib.hid hn1
  rw [← hn1] at HL HGR q1 q3 ⊢
  have hc1 : c1 ≤ 9223372036854775807 := q2
  clear hn1 q2
  go_enter Try.func19, Try.ntmps19
  go_wp2_with fail
  refine (HAL.out _).mono ?_
  rintro e w1 ⟨rfl, hb⟩
  have HB1 := Lib.hid hb
  have HGG := Lib.hid (HGR.out _ (HL.out.below hb (Nat.le_refl _)))
  clear hb
  go_wp2_with fail
  refine HGG.out.mono ?_
  rintro e w2 ⟨gr, rfl, hgr, hb⟩
  have HB2 := Lib.hid (HB1.out.trans (hb.mono HB1.out.size))
  have HGN := Lib.hid hgr
  clear hb hgr HGG HB1
  cases gr with
  | true =>
    go_wp2
    go_ret
    exact ⟨rfl, HB2.out⟩
  | false =>
    have hn3 : n1 ≤ 400 := HGN.out rfl
    have HN3 := Lib.hid hn3
    have HC : Hid (∀ j x, l[j]? = some x → (x.k.s.size ≤ 140737488355328 ∧ x.v.s.size ≤ 140737488355328) ∧ ∃ b off, a1 = some ⟨b, off, none⟩ ∧ ∀ i u, x.cells[i]? = some u → w.cell? ⟨b, off + j * 8 + i, none⟩ = some u) := Lib.hid (by
      obtain ⟨_, _, e, _, _, _, h⟩ := HL.out
      cases e
      exact h)
    have HNF := Lib.hid (HNT.out w2 HB2.out)
    clear HGN
    go_upto_region 6 with (first
      | (go_at_call 61; (with_reducible refine HNF.out.mono ?_); rintro e w3 ⟨sb, rfl, h1, _⟩; have D3 := Lib.hid h1; clear h1 HNF; have HX := Lib.hid (D3.out.new rfl))
      | (go_at_call 62; (with_reducible refine HX.out.mono ?_); rintro e w4 ⟨tb, rfl, h1, _⟩; have D4 := Lib.hid h1; clear h1 HX; have HY := Lib.hid D4.out.beside)
      | (go_at_call 62; (with_reducible refine HY.out.mono ?_); rintro e w5 ⟨ub, rfl, h1⟩; have D5 := Lib.hid h1; clear h1 HY))
    have D6 : Hid (DD w w5 (some ⟨sb, 0, none⟩) dp fn T0 0 [(tb, .pointer none, al0)] [] 0 [(ub, .pointer none, al0)]) := D5
    clear D5 D4 D3
    go_wp2
    go_loopw [10, 22] (fun _ ii wr => Hid (∃ (k : Nat) (T : List Sh) (s t : Tab), k ≤ n1 ∧ ii = .int .i64 k ∧ Alike s t ∧ t.i = 0 ∧ Hid (DD w wr (some ⟨sb, 0, none⟩) dp fn T k [(tb, .pointer none, s)] [] k [(ub, .pointer none, t)]))) (fun _ ii _ => n1 - (intOf ii).toNat)
    case atStart => exact Lib.hid ⟨0, T0, al0, al0, by omega, rfl, ⟨rfl, rfl⟩, rfl, D6⟩
    case round =>
      obtain ⟨k, T, s, t, hk, rfl, hal, hti, hre⟩ := hrel.out
      have HAK := Lib.hid hal
      have HTI := Lib.hid hti
      clear hrel hal hti
      by_cases hlt : k < n1
      · have hkl : k < l.length := by rw [← E1.out]; exact hlt
        obtain ⟨x0, hx0⟩ : ∃ x, l[k]? = some x := ⟨_, List.getElem?_eq_getElem hkl⟩
        obtain ⟨⟨hs1, hs2⟩, b, off, rfl, hcl⟩ := HC.out k x0 hx0
        have hc := fun i u hu => (hre.out.bel.cell (World.block_lt_of_cell? w _ (hcl i u hu))).trans (hcl i u hu)
        obtain ⟨oc, on, ⟨k1, k2, k3⟩, ⟨v1, v2, v3⟩⟩ := x0
        have u0 := hc 0 _ rfl
        have u1 := hc 1 _ rfl
        have u2 := hc 2 _ rfl
        have u3 := hc 3 _ rfl
        have u4 := hc 4 _ rfl
        have u5 := hc 5 _ rfl
        have u6 := hc 6 _ rfl
        have u7 := hc 7 _ rfl
        rw [Nat.add_zero] at u0
        have HKS : Hid (k3.size ≤ maxLen) := Lib.hid (Nat.le_trans hs1 (by decide))
        have HK1 : Hid (k ≤ 99999) := Lib.hid (by omega)
        have D1 := Lib.hid (hre.out.alloc [.int .i64 oc, .int .i64 on, .int .i64 k1, .int .i64 k2, .string k3, .int .i64 v1, .int .i64 v2, .string v3] 130)
        clear hc hcl hx0 hkl hs1 hs2
        go_upto_region 9 with fail
        clear u0 u1 u2 u3 u4 u5 u6 u7
        obtain ⟨ob, hob⟩ : ∃ b, b = wr.heap.size := ⟨_, rfl⟩
        obtain ⟨w1, hw1⟩ : ∃ W, W = wr.alloc (.cells #[.int .i64 oc, .int .i64 on, .int .i64 k1, .int .i64 k2, .string k3, .int .i64 v1, .int .i64 v2, .string v3] 130) := ⟨_, rfl⟩
        have D2 : Hid (DD w w1 (some ⟨sb, 0, none⟩) dp fn T k [(tb, .pointer none, s)] [(ob, 130, [.int .i64 oc, .int .i64 on, .int .i64 k1, .int .i64 k2, .string k3, .int .i64 v1, .int .i64 v2, .string v3])] k [(ub, .pointer none, t)]) := Lib.hid (by rw [hw1, hob]; exact D1.out)
        rw [← hob, ← hw1]
        clear hob hw1 D1 hre
        have hbk := D2.out.blk (c := (ob, 130, [.int .i64 oc, .int .i64 on, .int .i64 k1, .int .i64 k2, .string k3, .int .i64 v1, .int .i64 v2, .string v3])) (by simp)
        have x0 := hbk.cell 0 _ rfl
        clear hbk
        by_cases h3 : (3 : Int) < oc
        · have DM : Hid (DD w w1 (some ⟨sb, 0, none⟩) dp fn T (k + 1) [(tb, .pointer none, s)] [] (k + 1) [(ub, .pointer none, t)]) := Lib.hid (by
            obtain ⟨P, g1, g2, g3⟩ := D2.out.drop
            exact ⟨P, g1, g2.mono (Nat.le_succ k), g3.mono (Nat.le_succ k)⟩)
          go_wp2
          go_roundw
          case rel => exact Lib.hid ⟨k + 1, T, s, t, by omega, by go_num, HAK.out, HTI.out, DM⟩
          case measure => simp [intOf]; omega
        · have h3' : decide ((3 : Int) < oc) = false := decide_eq_false h3
          obtain ⟨⟨⟨a1, a2, a3⟩, ⟨b1, b2, b3⟩, an, ae, ai⟩, hans⟩ : ∃ A, A = doAT dp fn T s ⟨oc, on, ⟨k1, k2, k3⟩, ⟨v1, v2, v3⟩⟩ := ⟨_, rfl⟩
          obtain ⟨s', hs'⟩ : ∃ s', s' = doST dp fn T s ⟨oc, on, ⟨k1, k2, k3⟩, ⟨v1, v2, v3⟩⟩ := ⟨_, rfl⟩
          obtain ⟨t', ht'⟩ : ∃ t', t' = doST 0 0 T0 t ⟨oc, on, ⟨k1, k2, k3⟩, ⟨v1, v2, v3⟩⟩ := ⟨_, rfl⟩
          obtain ⟨T', hT'⟩ : ∃ T', T' = doTT dp fn T s ⟨oc, on, ⟨k1, k2, k3⟩, ⟨v1, v2, v3⟩⟩ := ⟨_, rfl⟩
          have hdo := HAK.out.do dp fn 0 0 T T0 ⟨oc, on, ⟨k1, k2, k3⟩, ⟨v1, v2, v3⟩⟩ (by show oc ≤ 3; omega)
          rw [← hans, ← hs', ← ht'] at hdo
          have hnt := (noTree_do HTI.out 0 ⟨oc, on, ⟨k1, k2, k3⟩, ⟨v1, v2, v3⟩⟩).1
          rw [← ht'] at hnt
          have HDO := Lib.hid hdo
          have HNT2 := Lib.hid hnt
          have HA := Lib.hid (And.intro hans (And.intro hs' (And.intro hT' ht')))
          clear hdo hnt hans hs' hT' ht'
          have HD1 : Hid (∀ W : World, DD w W (some ⟨sb, 0, none⟩) dp fn T k [(tb, .pointer none, s)] [(ob, 130, [.int .i64 oc, .int .i64 on, .int .i64 k1, .int .i64 k2, .string k3, .int .i64 v1, .int .i64 v2, .string v3])] k [(ub, .pointer none, t)] → Calls Try.prog 86 #[.pointer (some ⟨tb, 0, none⟩), .agg #[.int .i64 oc, .int .i64 on, .int .i64 k1, .int .i64 k2, .string k3, .int .i64 v1, .int .i64 v2, .string v3]] W fun e w' => e = .returned (.agg #[.int .i64 a1, .int .i64 a2, .string a3, .int .i64 b1, .int .i64 b2, .string b3, .int .i64 an, .int .i64 ae, .bool ai]) ∧ DD w w' (some ⟨sb, 0, none⟩) dp fn T' (k + 1) [(tb, .pointer none, s')] [(ob, 130, [.int .i64 oc, .int .i64 on, .int .i64 k1, .int .i64 k2, .string k3, .int .i64 v1, .int .i64 v2, .string v3])] k [(ub, .pointer none, t)]) := Lib.hid (fun W hW => by
            refine (hW.do1 (i := 0) rfl HK1.out ⟨oc, on, ⟨k1, k2, k3⟩, ⟨v1, v2, v3⟩⟩ HKS.out).mono ?_
            rintro e w' ⟨h1, h2⟩
            rw [← HA.out.1] at h1
            rw [← HA.out.2.1, ← HA.out.2.2.1] at h2
            exact ⟨h1, h2⟩)
          have HD2 : Hid (∀ W : World, DD w W (some ⟨sb, 0, none⟩) dp fn T' (k + 1) [(tb, .pointer none, s')] [(ob, 130, [.int .i64 oc, .int .i64 on, .int .i64 k1, .int .i64 k2, .string k3, .int .i64 v1, .int .i64 v2, .string v3])] k [(ub, .pointer none, t)] → Calls Try.prog 86 #[.pointer (some ⟨ub, 0, none⟩), .agg #[.int .i64 oc, .int .i64 on, .int .i64 k1, .int .i64 k2, .string k3, .int .i64 v1, .int .i64 v2, .string v3]] W fun e w' => e = .returned (.agg #[.int .i64 a1, .int .i64 a2, .string a3, .int .i64 b1, .int .i64 b2, .string b3, .int .i64 an, .int .i64 ae, .bool ai]) ∧ DD w w' (some ⟨sb, 0, none⟩) dp fn T' (k + 1) [(tb, .pointer none, s')] [(ob, 130, [.int .i64 oc, .int .i64 on, .int .i64 k1, .int .i64 k2, .string k3, .int .i64 v1, .int .i64 v2, .string v3])] (k + 1) [(ub, .pointer none, t')]) := Lib.hid (fun W hW => by
            refine (hW.do2 (i := 0) rfl HK1.out ⟨oc, on, ⟨k1, k2, k3⟩, ⟨v1, v2, v3⟩⟩ HKS.out HTI.out).mono ?_
            rintro e w' ⟨h1, h2⟩
            rw [← HDO.out.1] at h1
            rw [← HA.out.2.2.2] at h2
            exact ⟨h1, h2⟩)
          have HL1 : Hid (∀ W : World, DD w W (some ⟨sb, 0, none⟩) dp fn T' (k + 1) [(tb, .pointer none, s')] [(ob, 130, [.int .i64 oc, .int .i64 on, .int .i64 k1, .int .i64 k2, .string k3, .int .i64 v1, .int .i64 v2, .string v3])] (k + 1) [(ub, .pointer none, t')] → Calls Try.prog 72 #[.pointer (some ⟨tb, 0, none⟩)] W fun e w' => e = .returned (.int .i64 (s'.A.length : Nat)) ∧ Below W.heap.size W w') := Lib.hid (fun W hW => toBel' (hW.len1 (i := 0) rfl))
          have HL2 : Hid (∀ W : World, DD w W (some ⟨sb, 0, none⟩) dp fn T' (k + 1) [(tb, .pointer none, s')] [(ob, 130, [.int .i64 oc, .int .i64 on, .int .i64 k1, .int .i64 k2, .string k3, .int .i64 v1, .int .i64 v2, .string v3])] (k + 1) [(ub, .pointer none, t')] → Calls Try.prog 72 #[.pointer (some ⟨ub, 0, none⟩)] W fun e w' => e = .returned (.int .i64 (s'.A.length : Nat)) ∧ Below W.heap.size W w') := Lib.hid (fun W hW => by
            have := hW.len2 (i := 0) rfl
            rw [← HDO.out.2.a] at this
            exact toBel' this)
          go_upto_region 10 with fail
          clear x0
          refine ts_reg10 HD1 HD2 HL1 HL2 D2 (fun _ _ _ _ _ h => h) ?_
          intro w9 D9
          intros
          have D10 := Lib.hid D9.out.drop
          clear D9 D2 HD1 HD2 HL1 HL2
          go_wp2
          go_roundw
          case rel => exact Lib.hid ⟨k + 1, T', s', t', by omega, by go_num, HDO.out.2, HNT2.out, D10⟩
          case measure => simp [intOf]; omega
      · obtain rfl : k = n1 := by omega
        have HMD := Lib.hid (hre.out.mode2 (i := 0) rfl)
        have HSH := Lib.hid (hre.out.shape2 (i := 0) rfl)
        cases hh : t.h with
        | true =>
          rw [hh] at HMD HSH
          have HMD : Hid (Calls Try.prog 64 #[.pointer (some ⟨ub, 0, none⟩)] wr fun e w' => e = .returned (.int .i64 2) ∧ wr = w') := HMD
          go_wp2_with (go_at_call 64; (with_reducible refine HMD.out.mono ?_); rintro e w8 ⟨rfl, rfl⟩)
          go_ret
          exact ⟨rfl, hre.out.bel⟩
        | false =>
          rw [hh] at HMD HSH
          have HMD : Hid (Calls Try.prog 64 #[.pointer (some ⟨ub, 0, none⟩)] wr fun e w' => e = .returned (.int .i64 1) ∧ wr = w') := HMD
          have HSH : Hid (Calls Try.prog 65 #[.pointer (some ⟨ub, 0, none⟩)] wr fun e w' => e = .returned (.int .i64 0) ∧ wr = w') := by
            rw [HTI.out] at HSH
            exact HSH
          go_wp2_with (first
            | (go_at_call 64; (with_reducible refine HMD.out.mono ?_); rintro e w8 ⟨rfl, rfl⟩)
            | (go_at_call 65; (with_reducible refine HSH.out.mono ?_); rintro e w8 ⟨rfl, rfl⟩))
          go_ret
          exact ⟨rfl, hre.out.bel⟩
end Go.Proofs.Ytmjfmfelbmbniaa
