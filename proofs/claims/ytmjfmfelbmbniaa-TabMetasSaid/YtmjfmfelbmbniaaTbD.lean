/- Layer 14: the law TabMetas. -/
import Derived.Test.YtmjfmfelbmbniaaTbC
import Derived.Test.YtmjfmfelbmbniaaTaW
namespace Go.Proofs.Ytmjfmfelbmbniaa
open Go.RowKit Go.Maps HK ShM
set_option linter.unusedVariables false
set_option linter.unusedSimpArgs false
open RH
def findRg (n : Nat) : Code → Option (Array Oper)
  | .region m o _ => if m = n then some o else none
  | .seq a b => (findRg n a).or (findRg n b)
  | .cond _ a b => (findRg n a).or (findRg n b)
  | .block _ a => findRg n a
  | .loop a => findRg n a
  | .scope a => findRg n a
  | _ => none
/-- The operations of a function's region. -/
def regOp (f : Func) (n : Nat) : Array Oper := ((f.body.bind (findRg n)).getD #[])
set_option maxHeartbeats 16000000 in
set_option maxRecDepth 20000 in
theorem tm_reg16 {w w5 : World} {sb tb ub mb ob N : Nat} {oc on k1 k2 v1 v2 a1 a2 b1 b2 an ae ln md sh : Int} {k3 v3 a3 b3 : ByteArray} {ai : Bool} {T T' : List Sh} {s s' : Tab} {r : Option Addr} {Q : Exit → Act → World → Prop} {u0 u1 u2 u3 u4 u5 u8 u10 u12 u13 u14 u15 u16 u17 u18 u19 u20 u21 u22 u23 u24 u25 u26 u27 u28 u29 u30 u31 u32 u33 u34 u35 u36 u37 u38 u39 u40 u41 u42 u43 u44 u45 u46 u47 u48 u49 u50 u51 u52 u53 u54 u55 u56 u57 u58 u59 u60 u61 u62 u63 u64 u65 u66 u67 u68 u69 u70 u71 u72 u73 u74 u75 u76 u77 u78 u79 u80 u81 u82 u83 u84 u85 u86 u87 u88 u89 u90 u91 u92 u93 u94 u95 u96 u97 u98 u99 u100 u101 u102 u103 : Value} (hpr : ∀ W, (binOp .neq 88 (.pointer r) (.pointer r)).run Try.prog W = .ok (.bool false) W) (HD1 : Hid (∀ W : World, TL w W (fun _ => False) (some ⟨sb, 0, none⟩) 8 8 T N [(tb, .pointer r, s), (ub, .pointer none, s), (mb, .pointer none, al0)] [(ob, 130, [.int .i64 oc, .int .i64 on, .int .i64 k1, .int .i64 k2, .string k3, .int .i64 v1, .int .i64 v2, .string v3])] → Calls Try.prog 86 #[.pointer (some ⟨tb, 0, none⟩), .agg #[.int .i64 oc, .int .i64 on, .int .i64 k1, .int .i64 k2, .string k3, .int .i64 v1, .int .i64 v2, .string v3]] W fun e w' => e = .returned (.agg #[.int .i64 a1, .int .i64 a2, .string a3, .int .i64 b1, .int .i64 b2, .string b3, .int .i64 an, .int .i64 ae, .bool ai]) ∧ TL w w' (fun _ => False) (some ⟨sb, 0, none⟩) 8 8 T' (N + 1) [(tb, .pointer r, s'), (ub, .pointer none, s), (mb, .pointer none, al0)] [(ob, 130, [.int .i64 oc, .int .i64 on, .int .i64 k1, .int .i64 k2, .string k3, .int .i64 v1, .int .i64 v2, .string v3])]))
    (HD2 : Hid (∀ W : World, TL w W (fun _ => False) (some ⟨sb, 0, none⟩) 8 8 T' (N + 1) [(tb, .pointer r, s'), (ub, .pointer none, s), (mb, .pointer none, al0)] [(ob, 130, [.int .i64 oc, .int .i64 on, .int .i64 k1, .int .i64 k2, .string k3, .int .i64 v1, .int .i64 v2, .string v3])] → Calls Try.prog 86 #[.pointer (some ⟨ub, 0, none⟩), .agg #[.int .i64 oc, .int .i64 on, .int .i64 k1, .int .i64 k2, .string k3, .int .i64 v1, .int .i64 v2, .string v3]] W fun e w' => e = .returned (.agg #[.int .i64 a1, .int .i64 a2, .string a3, .int .i64 b1, .int .i64 b2, .string b3, .int .i64 an, .int .i64 ae, .bool ai]) ∧ TL w w' (fun _ => False) (some ⟨sb, 0, none⟩) 8 8 T' (N + 1 + 1) [(tb, .pointer r, s'), (ub, .pointer none, s'), (mb, .pointer none, al0)] [(ob, 130, [.int .i64 oc, .int .i64 on, .int .i64 k1, .int .i64 k2, .string k3, .int .i64 v1, .int .i64 v2, .string v3])]))
    (HM1 : Hid (∀ W : World, TL w W (fun _ => False) (some ⟨sb, 0, none⟩) 8 8 T' (N + 1 + 1) [(tb, .pointer r, s'), (ub, .pointer none, s'), (mb, .pointer none, al0)] [(ob, 130, [.int .i64 oc, .int .i64 on, .int .i64 k1, .int .i64 k2, .string k3, .int .i64 v1, .int .i64 v2, .string v3])] → Calls Try.prog 84 #[.pointer (some ⟨tb, 0, none⟩)] W fun e w' => e = .returned (.pointer r) ∧ Below W.heap.size W w')) (HL1 : Hid (∀ W : World, TL w W (fun _ => False) (some ⟨sb, 0, none⟩) 8 8 T' (N + 1 + 1) [(tb, .pointer r, s'), (ub, .pointer none, s'), (mb, .pointer none, al0)] [(ob, 130, [.int .i64 oc, .int .i64 on, .int .i64 k1, .int .i64 k2, .string k3, .int .i64 v1, .int .i64 v2, .string v3])] → Calls Try.prog 72 #[.pointer (some ⟨tb, 0, none⟩)] W fun e w' => e = .returned (.int .i64 ln) ∧ Below W.heap.size W w')) (HL2 : Hid (∀ W : World, TL w W (fun _ => False) (some ⟨sb, 0, none⟩) 8 8 T' (N + 1 + 1) [(tb, .pointer r, s'), (ub, .pointer none, s'), (mb, .pointer none, al0)] [(ob, 130, [.int .i64 oc, .int .i64 on, .int .i64 k1, .int .i64 k2, .string k3, .int .i64 v1, .int .i64 v2, .string v3])] → Calls Try.prog 72 #[.pointer (some ⟨ub, 0, none⟩)] W fun e w' => e = .returned (.int .i64 ln) ∧ Below W.heap.size W w')) (HO1 : Hid (∀ W : World, TL w W (fun _ => False) (some ⟨sb, 0, none⟩) 8 8 T' (N + 1 + 1) [(tb, .pointer r, s'), (ub, .pointer none, s'), (mb, .pointer none, al0)] [(ob, 130, [.int .i64 oc, .int .i64 on, .int .i64 k1, .int .i64 k2, .string k3, .int .i64 v1, .int .i64 v2, .string v3])] → Calls Try.prog 64 #[.pointer (some ⟨tb, 0, none⟩)] W fun e w' => e = .returned (.int .i64 md) ∧ Below W.heap.size W w')) (HO2 : Hid (∀ W : World, TL w W (fun _ => False) (some ⟨sb, 0, none⟩) 8 8 T' (N + 1 + 1) [(tb, .pointer r, s'), (ub, .pointer none, s'), (mb, .pointer none, al0)] [(ob, 130, [.int .i64 oc, .int .i64 on, .int .i64 k1, .int .i64 k2, .string k3, .int .i64 v1, .int .i64 v2, .string v3])] → Calls Try.prog 64 #[.pointer (some ⟨ub, 0, none⟩)] W fun e w' => e = .returned (.int .i64 md) ∧ Below W.heap.size W w'))
    (HS1 : Hid (∀ W : World, TL w W (fun _ => False) (some ⟨sb, 0, none⟩) 8 8 T' (N + 1 + 1) [(tb, .pointer r, s'), (ub, .pointer none, s'), (mb, .pointer none, al0)] [(ob, 130, [.int .i64 oc, .int .i64 on, .int .i64 k1, .int .i64 k2, .string k3, .int .i64 v1, .int .i64 v2, .string v3])] → Calls Try.prog 65 #[.pointer (some ⟨tb, 0, none⟩)] W fun e w' => e = .returned (.int .i64 sh) ∧ Below W.heap.size W w')) (HS2 : Hid (∀ W : World, TL w W (fun _ => False) (some ⟨sb, 0, none⟩) 8 8 T' (N + 1 + 1) [(tb, .pointer r, s'), (ub, .pointer none, s'), (mb, .pointer none, al0)] [(ob, 130, [.int .i64 oc, .int .i64 on, .int .i64 k1, .int .i64 k2, .string k3, .int .i64 v1, .int .i64 v2, .string v3])] → Calls Try.prog 65 #[.pointer (some ⟨ub, 0, none⟩)] W fun e w' => e = .returned (.int .i64 sh) ∧ Below W.heap.size W w')) (HM2 : Hid (∀ W : World, TL w W (fun _ => False) (some ⟨sb, 0, none⟩) 8 8 T' (N + 1 + 1) [(tb, .pointer r, s'), (ub, .pointer none, s'), (mb, .pointer none, al0)] [(ob, 130, [.int .i64 oc, .int .i64 on, .int .i64 k1, .int .i64 k2, .string k3, .int .i64 v1, .int .i64 v2, .string v3])] → Calls Try.prog 84 #[.pointer (some ⟨ub, 0, none⟩)] W fun e w' => e = .returned (.pointer none) ∧ Below W.heap.size W w'))
    (D5 : Hid (TL w w5 (fun _ => False) (some ⟨sb, 0, none⟩) 8 8 T N [(tb, .pointer r, s), (ub, .pointer none, s), (mb, .pointer none, al0)] [(ob, 130, [.int .i64 oc, .int .i64 on, .int .i64 k1, .int .i64 k2, .string k3, .int .i64 v1, .int .i64 v2, .string v3])])) (HP : ∀ c (a : Act) (d : Nat) v w, Q (.panic c) (a.put (some d) v) w → Q (.panic c) a w)
    (HQ : ∀ w6, Hid (TL w w6 (fun _ => False) (some ⟨sb, 0, none⟩) 8 8 T' (N + 1 + 1) [(tb, .pointer r, s'), (ub, .pointer none, s'), (mb, .pointer none, al0)] [(ob, 130, [.int .i64 oc, .int .i64 on, .int .i64 k1, .int .i64 k2, .string k3, .int .i64 v1, .int .i64 v2, .string v3])]) → ∀ (v50 v51 v52 v53 v54 v55 v56 v57 v58 v59 v60 v61 v62 v63 v64 v65 v66 v67 v68 v69 v70 v71 v72 v73 v74 v75 v76 v77 v78 v79 v80 v81 v82 v83 v84 v85 v86 v87 : Value), Q .normal ⟨#[u0, u1, u2, u3, u4, u5, .pointer (some ⟨tb, 0, none⟩), .pointer (some ⟨ub, 0, none⟩), u8, .pointer r, u10, .pointer (some ⟨ob, 0, none⟩), u12, u13, u14, u15, u16, u17, u18, u19, u20, u21, u22, u23, u24, u25, u26, u27, u28, u29, u30, u31, u32, u33, u34, u35, u36, u37, u38, u39, u40, u41, u42, u43, u44, u45, u46, u47, u48, u49, v50, v51, v52, v53, v54, v55, v56, v57, v58, v59, v60, v61, v62, v63, v64, v65, v66, v67, v68, v69, v70, v71, v72, v73, v74, v75, v76, v77, v78, v79, v80, v81, v82, v83, v84, v85, v86, v87, .bool false, u89, u90, u91, u92, u93, u94, u95, u96, u97, u98, u99, u100, u101, u102, u103], []⟩ w6) : (Code.region 16 (regOp Try.f20 16) true).wp Try.prog Q ⟨#[u0, u1, u2, u3, u4, u5, .pointer (some ⟨tb, 0, none⟩), .pointer (some ⟨ub, 0, none⟩), u8, .pointer r, u10, .pointer (some ⟨ob, 0, none⟩), u12, u13, u14, u15, u16, u17, u18, u19, u20, u21, u22, u23, u24, u25, u26, u27, u28, u29, u30, u31, u32, u33, u34, u35, u36, u37, u38, u39, u40, u41, u42, u43, u44, u45, u46, u47, u48, u49, u50, u51, u52, u53, u54, u55, u56, u57, u58, u59, u60, u61, u62, u63, u64, u65, u66, u67, u68, u69, u70, u71, u72, u73, u74, u75, u76, u77, u78, u79, u80, u81, u82, u83, u84, u85, u86, u87, u88, u89, u90, u91, u92, u93, u94, u95, u96, u97, u98, u99, u100, u101, u102, u103], []⟩ w5 := by
  simp only [regOp, Try.f20, findRg, Option.bind_some, Option.getD_some, Option.none_or, Option.some_or, Option.or_none, reduceCtorEq, if_false, if_true, Nat.reduceEqDiff]
  have BLd : Below w5.heap.size w5 ({ w5 with drawn := w5.drawn + 1 } : World) := ⟨rfl, rfl, rfl, Nat.le_refl _, fun _ _ => rfl⟩
  have Dd := Lib.hid (D5.out.below BLd)
  refine wp_region_held (S := fun W : World => Blk W (ob) 130 [.int .i64 oc, .int .i64 on, .int .i64 k1, .int .i64 k2, .string k3, .int .i64 v1, .int .i64 v2, .string v3] ∧ True) (by kernel_rfl) ?_
  generalize ({ w5 with drawn := w5.drawn + 1 } : World) = wd at BLd Dd ⊢
  have hSd : (fun W : World => Blk W (ob) 130 [.int .i64 oc, .int .i64 on, .int .i64 k1, .int .i64 k2, .string k3, .int .i64 v1, .int .i64 v2, .string v3] ∧ True) wd := ⟨Dd.out.blk (c := (ob, 130, [.int .i64 oc, .int .i64 on, .int .i64 k1, .int .i64 k2, .string k3, .int .i64 v1, .int .i64 v2, .string v3])) (by simp), trivial⟩
  have oxd0 : ∀ W : World, (Blk W (ob) 130 [.int .i64 oc, .int .i64 on, .int .i64 k1, .int .i64 k2, .string k3, .int .i64 v1, .int .i64 v2, .string v3] ∧ True) → W.cell? ⟨ob, 0, none⟩ = some (.int .i64 oc) := fun W hW => hW.1.cell 0 _ rfl
  have oxd1 : ∀ W : World, (Blk W (ob) 130 [.int .i64 oc, .int .i64 on, .int .i64 k1, .int .i64 k2, .string k3, .int .i64 v1, .int .i64 v2, .string v3] ∧ True) → W.cell? ⟨ob, 1, none⟩ = some (.int .i64 on) := fun W hW => hW.1.cell 1 _ rfl
  have oxd2 : ∀ W : World, (Blk W (ob) 130 [.int .i64 oc, .int .i64 on, .int .i64 k1, .int .i64 k2, .string k3, .int .i64 v1, .int .i64 v2, .string v3] ∧ True) → W.cell? ⟨ob, 2, none⟩ = some (.int .i64 k1) := fun W hW => hW.1.cell 2 _ rfl
  have oxd3 : ∀ W : World, (Blk W (ob) 130 [.int .i64 oc, .int .i64 on, .int .i64 k1, .int .i64 k2, .string k3, .int .i64 v1, .int .i64 v2, .string v3] ∧ True) → W.cell? ⟨ob, 3, none⟩ = some (.int .i64 k2) := fun W hW => hW.1.cell 3 _ rfl
  have oxd4 : ∀ W : World, (Blk W (ob) 130 [.int .i64 oc, .int .i64 on, .int .i64 k1, .int .i64 k2, .string k3, .int .i64 v1, .int .i64 v2, .string v3] ∧ True) → W.cell? ⟨ob, 4, none⟩ = some (.string k3) := fun W hW => hW.1.cell 4 _ rfl
  have oxd5 : ∀ W : World, (Blk W (ob) 130 [.int .i64 oc, .int .i64 on, .int .i64 k1, .int .i64 k2, .string k3, .int .i64 v1, .int .i64 v2, .string v3] ∧ True) → W.cell? ⟨ob, 5, none⟩ = some (.int .i64 v1) := fun W hW => hW.1.cell 5 _ rfl
  have oxd6 : ∀ W : World, (Blk W (ob) 130 [.int .i64 oc, .int .i64 on, .int .i64 k1, .int .i64 k2, .string k3, .int .i64 v1, .int .i64 v2, .string v3] ∧ True) → W.cell? ⟨ob, 6, none⟩ = some (.int .i64 v2) := fun W hW => hW.1.cell 6 _ rfl
  have oxd7 : ∀ W : World, (Blk W (ob) 130 [.int .i64 oc, .int .i64 on, .int .i64 k1, .int .i64 k2, .string k3, .int .i64 v1, .int .i64 v2, .string v3] ∧ True) → W.cell? ⟨ob, 7, none⟩ = some (.string v3) := fun W hW => hW.1.cell 7 _ rfl
  refine takeH 0 (oi := ⟨some 50, _, _, _, _, _⟩) (v := ?_) rfl (by kernel_rfl) (by kernel_rfl) (by kernel_rfl) (fun c _ w h => HP c _ _ _ w h) (Or.inl ⟨by rfl, ?_⟩) hSd ?_
  rotate_left
  · (intro W hW; (try dsimp only at hW); go_simp; try with_reducible rfl)
  try (conv in (Act.put _ _ _) => simp only [Act.put, List.setIfInBounds_toArray, List.set_cons_zero, List.set_cons_succ])
  refine takeH 1 (oi := ⟨some 51, _, _, _, _, _⟩) (v := ?_) rfl (by kernel_rfl) (by kernel_rfl) (by kernel_rfl) (fun c _ w h => HP c _ _ _ w h) (Or.inl ⟨by rfl, ?_⟩) hSd ?_
  rotate_left
  · (intro W hW; (try dsimp only at hW); go_simp; try with_reducible rfl)
  try (conv in (Act.put _ _ _) => simp only [Act.put, List.setIfInBounds_toArray, List.set_cons_zero, List.set_cons_succ])
  refine takeH 3 (oi := ⟨some 53, _, _, _, _, _⟩) (v := ?_) rfl (by kernel_rfl) (by kernel_rfl) (by kernel_rfl) (fun c _ w h => HP c _ _ _ w h) (Or.inl ⟨by rfl, ?_⟩) hSd ?_
  rotate_left
  · (intro W hW; (try dsimp only at hW); go_simp; try with_reducible rfl)
  try (conv in (Act.put _ _ _) => simp only [Act.put, List.setIfInBounds_toArray, List.set_cons_zero, List.set_cons_succ])
  refine takeH 4 (oi := ⟨some 54, _, _, _, _, _⟩) (v := ?_) rfl (by kernel_rfl) (by kernel_rfl) (by kernel_rfl) (fun c _ w h => HP c _ _ _ w h) (Or.inl ⟨by rfl, ?_⟩) hSd ?_
  rotate_left
  · (intro W hW; (try dsimp only at hW); go_simp; try with_reducible rfl)
  try (conv in (Act.put _ _ _) => simp only [Act.put, List.setIfInBounds_toArray, List.set_cons_zero, List.set_cons_succ])
  refine one (i := 2) (by kernel_rfl) ?_
  refine wpOp_wanted rfl (by rfl) fun K hK => ?_
  go_simp
  with_reducible refine (HD1.out _ Dd.out).mono ?_
  rintro e wd5 ⟨rfl, hh⟩
  have Dd5 := Lib.hid (hh)
  clear hh
  have Sd5 : (fun W : World => Blk W (ob) 130 [.int .i64 oc, .int .i64 on, .int .i64 k1, .int .i64 k2, .string k3, .int .i64 v1, .int .i64 v2, .string v3] ∧ True) wd5 := ⟨Dd5.out.blk (c := (ob, 130, [.int .i64 oc, .int .i64 on, .int .i64 k1, .int .i64 k2, .string k3, .int .i64 v1, .int .i64 v2, .string v3])) (by simp), trivial⟩
  refine hK _ _ ⟨Sd5, ?_⟩
  clear hK K
  try (conv in (Act.put _ _ _) => simp only [Act.put, List.setIfInBounds_toArray, List.set_cons_zero, List.set_cons_succ])
  refine one (i := 5) (by kernel_rfl) ?_
  refine wpOp_wanted rfl (by rfl) fun K hK => ?_
  go_simp
  with_reducible refine (HD2.out _ Dd5.out).mono ?_
  rintro e wd6 ⟨rfl, hh⟩
  have Dd6 := Lib.hid (hh)
  clear hh
  have Sd6 : (fun W : World => Blk W (ob) 130 [.int .i64 oc, .int .i64 on, .int .i64 k1, .int .i64 k2, .string k3, .int .i64 v1, .int .i64 v2, .string v3] ∧ True) wd6 := ⟨Dd6.out.blk (c := (ob, 130, [.int .i64 oc, .int .i64 on, .int .i64 k1, .int .i64 k2, .string k3, .int .i64 v1, .int .i64 v2, .string v3])) (by simp), trivial⟩
  refine hK _ _ ⟨Sd6, ?_⟩
  clear hK K
  try (conv in (Act.put _ _ _) => simp only [Act.put, List.setIfInBounds_toArray, List.set_cons_zero, List.set_cons_succ])
  refine takeH 6 (oi := ⟨some 56, _, _, _, _, _⟩) (v := ?_) rfl (by kernel_rfl) (by kernel_rfl) (by kernel_rfl) (fun c _ w h => HP c _ _ _ w h) (Or.inl ⟨by rfl, ?_⟩) Sd6 ?_
  rotate_left
  · (intro W hW; (try dsimp only at hW); go_simp; try with_reducible rfl)
  try (conv in (Act.put _ _ _) => simp only [Act.put, List.setIfInBounds_toArray, List.set_cons_zero, List.set_cons_succ])
  refine takeH 7 (oi := ⟨some 57, _, _, _, _, _⟩) (v := ?_) rfl (by kernel_rfl) (by kernel_rfl) (by kernel_rfl) (fun c _ w h => HP c _ _ _ w h) (Or.inl ⟨by rfl, ?_⟩) Sd6 ?_
  rotate_left
  · (intro W hW; (try dsimp only at hW); go_simp; try with_reducible rfl)
  try (conv in (Act.put _ _ _) => simp only [Act.put, List.setIfInBounds_toArray, List.set_cons_zero, List.set_cons_succ])
  refine takeH 8 (oi := ⟨some 58, _, _, _, _, _⟩) (v := ?_) rfl (by kernel_rfl) (by kernel_rfl) (by kernel_rfl) (fun c _ w h => HP c _ _ _ w h) (Or.inl ⟨by rfl, ?_⟩) Sd6 ?_
  rotate_left
  · (intro W hW; (try dsimp only at hW); go_simp; try with_reducible rfl)
  try (conv in (Act.put _ _ _) => simp only [Act.put, List.setIfInBounds_toArray, List.set_cons_zero, List.set_cons_succ])
  refine takeH 10 (oi := ⟨some 60, _, _, _, _, _⟩) (v := ?_) rfl (by kernel_rfl) (by kernel_rfl) (by kernel_rfl) (fun c _ w h => HP c _ _ _ w h) (Or.inl ⟨by rfl, ?_⟩) Sd6 ?_
  rotate_left
  · (intro W hW; (try dsimp only at hW); go_simp; try with_reducible rfl)
  try (conv in (Act.put _ _ _) => simp only [Act.put, List.setIfInBounds_toArray, List.set_cons_zero, List.set_cons_succ])
  refine one (i := 9) (by kernel_rfl) ?_
  refine wpOp_wanted rfl (by rfl) fun K hK => ?_
  go_simp
  with_reducible refine (HM1.out _ Dd6.out).mono ?_
  rintro e wd11 ⟨rfl, hb⟩
  have Dd11 := Lib.hid (Dd6.out.below hb)
  clear hb
  have Sd11 : (fun W : World => Blk W (ob) 130 [.int .i64 oc, .int .i64 on, .int .i64 k1, .int .i64 k2, .string k3, .int .i64 v1, .int .i64 v2, .string v3] ∧ True) wd11 := ⟨Dd11.out.blk (c := (ob, 130, [.int .i64 oc, .int .i64 on, .int .i64 k1, .int .i64 k2, .string k3, .int .i64 v1, .int .i64 v2, .string v3])) (by simp), trivial⟩
  refine hK _ _ ⟨Sd11, ?_⟩
  clear hK K
  try (conv in (Act.put _ _ _) => simp only [Act.put, List.setIfInBounds_toArray, List.set_cons_zero, List.set_cons_succ])
  refine takeH 11 (oi := ⟨some 61, _, _, _, _, _⟩) (v := ?_) rfl (by kernel_rfl) (by kernel_rfl) (by kernel_rfl) (fun c _ w h => HP c _ _ _ w h) (Or.inl ⟨by rfl, ?_⟩) Sd11 ?_
  rotate_left
  · (intro W hW; (try dsimp only at hW); go_simp; try with_reducible rfl)
  try (conv in (Act.put _ _ _) => simp only [Act.put, List.setIfInBounds_toArray, List.set_cons_zero, List.set_cons_succ])
  refine takeH 12 (oi := ⟨some 62, _, _, _, _, _⟩) (v := ?_) rfl (by kernel_rfl) (by kernel_rfl) (by kernel_rfl) (fun c _ w h => HP c _ _ _ w h) (Or.inl ⟨by rfl, ?_⟩) Sd11 ?_
  rotate_left
  · (intro W hW; (try dsimp only at hW); go_simp; try with_reducible rfl)
  try (conv in (Act.put _ _ _) => simp only [Act.put, List.setIfInBounds_toArray, List.set_cons_zero, List.set_cons_succ])
  refine takeH 13 (oi := ⟨some 63, _, _, _, _, _⟩) (v := ?_) rfl (by kernel_rfl) (by kernel_rfl) (by kernel_rfl) (fun c _ w h => HP c _ _ _ w h) (Or.inl ⟨by rfl, ?_⟩) Sd11 ?_
  rotate_left
  · (intro W hW; (try dsimp only at hW); go_simp; try with_reducible rfl)
  try (conv in (Act.put _ _ _) => simp only [Act.put, List.setIfInBounds_toArray, List.set_cons_zero, List.set_cons_succ])
  refine takeH 14 (oi := ⟨some 64, _, _, _, _, _⟩) (v := ?_) rfl (by kernel_rfl) (by kernel_rfl) (by kernel_rfl) (fun c _ w h => HP c _ _ _ w h) (Or.inl ⟨by rfl, ?_⟩) Sd11 ?_
  rotate_left
  · (intro W hW; (try dsimp only at hW); go_simp; try with_reducible rfl)
  try (conv in (Act.put _ _ _) => simp only [Act.put, List.setIfInBounds_toArray, List.set_cons_zero, List.set_cons_succ])
  refine takeH 16 (oi := ⟨some 66, _, _, _, _, _⟩) (v := ?_) rfl (by kernel_rfl) (by kernel_rfl) (by kernel_rfl) (fun c _ w h => HP c _ _ _ w h) (Or.inl ⟨by rfl, ?_⟩) Sd11 ?_
  rotate_left
  · (intro W hW; (try dsimp only at hW); go_simp; try with_reducible rfl)
  try (conv in (Act.put _ _ _) => simp only [Act.put, List.setIfInBounds_toArray, List.set_cons_zero, List.set_cons_succ])
  refine one (i := 15) (by kernel_rfl) ?_
  refine wpOp_wanted rfl (by rfl) fun K hK => ?_
  go_simp
  with_reducible refine (HL1.out _ Dd11.out).mono ?_
  rintro e wd17 ⟨rfl, hb⟩
  have Dd17 := Lib.hid (Dd11.out.below hb)
  clear hb
  have Sd17 : (fun W : World => Blk W (ob) 130 [.int .i64 oc, .int .i64 on, .int .i64 k1, .int .i64 k2, .string k3, .int .i64 v1, .int .i64 v2, .string v3] ∧ True) wd17 := ⟨Dd17.out.blk (c := (ob, 130, [.int .i64 oc, .int .i64 on, .int .i64 k1, .int .i64 k2, .string k3, .int .i64 v1, .int .i64 v2, .string v3])) (by simp), trivial⟩
  refine hK _ _ ⟨Sd17, ?_⟩
  clear hK K
  try (conv in (Act.put _ _ _) => simp only [Act.put, List.setIfInBounds_toArray, List.set_cons_zero, List.set_cons_succ])
  refine one (i := 17) (by kernel_rfl) ?_
  refine wpOp_wanted rfl (by rfl) fun K hK => ?_
  go_simp
  with_reducible refine (HL2.out _ Dd17.out).mono ?_
  rintro e wd18 ⟨rfl, hb⟩
  have Dd18 := Lib.hid (Dd17.out.below hb)
  clear hb
  have Sd18 : (fun W : World => Blk W (ob) 130 [.int .i64 oc, .int .i64 on, .int .i64 k1, .int .i64 k2, .string k3, .int .i64 v1, .int .i64 v2, .string v3] ∧ True) wd18 := ⟨Dd18.out.blk (c := (ob, 130, [.int .i64 oc, .int .i64 on, .int .i64 k1, .int .i64 k2, .string k3, .int .i64 v1, .int .i64 v2, .string v3])) (by simp), trivial⟩
  refine hK _ _ ⟨Sd18, ?_⟩
  clear hK K
  try (conv in (Act.put _ _ _) => simp only [Act.put, List.setIfInBounds_toArray, List.set_cons_zero, List.set_cons_succ])
  refine takeH 18 (oi := ⟨some 68, _, _, _, _, _⟩) (v := ?_) rfl (by kernel_rfl) (by kernel_rfl) (by kernel_rfl) (fun c _ w h => HP c _ _ _ w h) (Or.inl ⟨by rfl, ?_⟩) Sd18 ?_
  rotate_left
  · (intro W hW; (try dsimp only at hW); go_simp; try with_reducible rfl)
  try (conv in (Act.put _ _ _) => simp only [Act.put, List.setIfInBounds_toArray, List.set_cons_zero, List.set_cons_succ])
  refine takeH 19 (oi := ⟨some 69, _, _, _, _, _⟩) (v := ?_) rfl (by kernel_rfl) (by kernel_rfl) (by kernel_rfl) (fun c _ w h => HP c _ _ _ w h) (Or.inl ⟨by rfl, ?_⟩) Sd18 ?_
  rotate_left
  · (intro W hW; (try dsimp only at hW); go_simp; try with_reducible rfl)
  try (conv in (Act.put _ _ _) => simp only [Act.put, List.setIfInBounds_toArray, List.set_cons_zero, List.set_cons_succ])
  refine takeH 20 (oi := ⟨some 70, _, _, _, _, _⟩) (v := ?_) rfl (by kernel_rfl) (by kernel_rfl) (by kernel_rfl) (fun c _ w h => HP c _ _ _ w h) (Or.inl ⟨by rfl, ?_⟩) Sd18 ?_
  rotate_left
  · (intro W hW; (try dsimp only at hW); go_simp; try with_reducible rfl)
  try (conv in (Act.put _ _ _) => simp only [Act.put, List.setIfInBounds_toArray, List.set_cons_zero, List.set_cons_succ])
  refine takeH 21 (oi := ⟨some 71, _, _, _, _, _⟩) (v := ?_) rfl (by kernel_rfl) (by kernel_rfl) (by kernel_rfl) (fun c _ w h => HP c _ _ _ w h) (Or.inl ⟨by rfl, ?_⟩) Sd18 ?_
  rotate_left
  · (intro W hW; (try dsimp only at hW); go_simp; try with_reducible rfl)
  try (conv in (Act.put _ _ _) => simp only [Act.put, List.setIfInBounds_toArray, List.set_cons_zero, List.set_cons_succ])
  refine takeH 23 (oi := ⟨some 73, _, _, _, _, _⟩) (v := ?_) rfl (by kernel_rfl) (by kernel_rfl) (by kernel_rfl) (fun c _ w h => HP c _ _ _ w h) (Or.inl ⟨by rfl, ?_⟩) Sd18 ?_
  rotate_left
  · (intro W hW; (try dsimp only at hW); go_simp; try with_reducible rfl)
  try (conv in (Act.put _ _ _) => simp only [Act.put, List.setIfInBounds_toArray, List.set_cons_zero, List.set_cons_succ])
  refine one (i := 22) (by kernel_rfl) ?_
  refine wpOp_wanted rfl (by rfl) fun K hK => ?_
  go_simp
  with_reducible refine (HO1.out _ Dd18.out).mono ?_
  rintro e wd24 ⟨rfl, hb⟩
  have Dd24 := Lib.hid (Dd18.out.below hb)
  clear hb
  have Sd24 : (fun W : World => Blk W (ob) 130 [.int .i64 oc, .int .i64 on, .int .i64 k1, .int .i64 k2, .string k3, .int .i64 v1, .int .i64 v2, .string v3] ∧ True) wd24 := ⟨Dd24.out.blk (c := (ob, 130, [.int .i64 oc, .int .i64 on, .int .i64 k1, .int .i64 k2, .string k3, .int .i64 v1, .int .i64 v2, .string v3])) (by simp), trivial⟩
  refine hK _ _ ⟨Sd24, ?_⟩
  clear hK K
  try (conv in (Act.put _ _ _) => simp only [Act.put, List.setIfInBounds_toArray, List.set_cons_zero, List.set_cons_succ])
  refine one (i := 24) (by kernel_rfl) ?_
  refine wpOp_wanted rfl (by rfl) fun K hK => ?_
  go_simp
  with_reducible refine (HO2.out _ Dd24.out).mono ?_
  rintro e wd25 ⟨rfl, hb⟩
  have Dd25 := Lib.hid (Dd24.out.below hb)
  clear hb
  have Sd25 : (fun W : World => Blk W (ob) 130 [.int .i64 oc, .int .i64 on, .int .i64 k1, .int .i64 k2, .string k3, .int .i64 v1, .int .i64 v2, .string v3] ∧ True) wd25 := ⟨Dd25.out.blk (c := (ob, 130, [.int .i64 oc, .int .i64 on, .int .i64 k1, .int .i64 k2, .string k3, .int .i64 v1, .int .i64 v2, .string v3])) (by simp), trivial⟩
  refine hK _ _ ⟨Sd25, ?_⟩
  clear hK K
  try (conv in (Act.put _ _ _) => simp only [Act.put, List.setIfInBounds_toArray, List.set_cons_zero, List.set_cons_succ])
  refine takeH 25 (oi := ⟨some 75, _, _, _, _, _⟩) (v := ?_) rfl (by kernel_rfl) (by kernel_rfl) (by kernel_rfl) (fun c _ w h => HP c _ _ _ w h) (Or.inl ⟨by rfl, ?_⟩) Sd25 ?_
  rotate_left
  · (intro W hW; (try dsimp only at hW); go_simp; try with_reducible rfl)
  try (conv in (Act.put _ _ _) => simp only [Act.put, List.setIfInBounds_toArray, List.set_cons_zero, List.set_cons_succ])
  refine takeH 26 (oi := ⟨some 76, _, _, _, _, _⟩) (v := ?_) rfl (by kernel_rfl) (by kernel_rfl) (by kernel_rfl) (fun c _ w h => HP c _ _ _ w h) (Or.inl ⟨by rfl, ?_⟩) Sd25 ?_
  rotate_left
  · (intro W hW; (try dsimp only at hW); go_simp; try with_reducible rfl)
  try (conv in (Act.put _ _ _) => simp only [Act.put, List.setIfInBounds_toArray, List.set_cons_zero, List.set_cons_succ])
  refine takeH 27 (oi := ⟨some 77, _, _, _, _, _⟩) (v := ?_) rfl (by kernel_rfl) (by kernel_rfl) (by kernel_rfl) (fun c _ w h => HP c _ _ _ w h) (Or.inl ⟨by rfl, ?_⟩) Sd25 ?_
  rotate_left
  · (intro W hW; (try dsimp only at hW); go_simp; try with_reducible rfl)
  try (conv in (Act.put _ _ _) => simp only [Act.put, List.setIfInBounds_toArray, List.set_cons_zero, List.set_cons_succ])
  refine takeH 28 (oi := ⟨some 78, _, _, _, _, _⟩) (v := ?_) rfl (by kernel_rfl) (by kernel_rfl) (by kernel_rfl) (fun c _ w h => HP c _ _ _ w h) (Or.inl ⟨by rfl, ?_⟩) Sd25 ?_
  rotate_left
  · (intro W hW; (try dsimp only at hW); go_simp; try with_reducible rfl)
  try (conv in (Act.put _ _ _) => simp only [Act.put, List.setIfInBounds_toArray, List.set_cons_zero, List.set_cons_succ])
  refine takeH 30 (oi := ⟨some 80, _, _, _, _, _⟩) (v := ?_) rfl (by kernel_rfl) (by kernel_rfl) (by kernel_rfl) (fun c _ w h => HP c _ _ _ w h) (Or.inl ⟨by rfl, ?_⟩) Sd25 ?_
  rotate_left
  · (intro W hW; (try dsimp only at hW); go_simp; try with_reducible rfl)
  try (conv in (Act.put _ _ _) => simp only [Act.put, List.setIfInBounds_toArray, List.set_cons_zero, List.set_cons_succ])
  refine one (i := 29) (by kernel_rfl) ?_
  refine wpOp_wanted rfl (by rfl) fun K hK => ?_
  go_simp
  with_reducible refine (HS1.out _ Dd25.out).mono ?_
  rintro e wd31 ⟨rfl, hb⟩
  have Dd31 := Lib.hid (Dd25.out.below hb)
  clear hb
  have Sd31 : (fun W : World => Blk W (ob) 130 [.int .i64 oc, .int .i64 on, .int .i64 k1, .int .i64 k2, .string k3, .int .i64 v1, .int .i64 v2, .string v3] ∧ True) wd31 := ⟨Dd31.out.blk (c := (ob, 130, [.int .i64 oc, .int .i64 on, .int .i64 k1, .int .i64 k2, .string k3, .int .i64 v1, .int .i64 v2, .string v3])) (by simp), trivial⟩
  refine hK _ _ ⟨Sd31, ?_⟩
  clear hK K
  try (conv in (Act.put _ _ _) => simp only [Act.put, List.setIfInBounds_toArray, List.set_cons_zero, List.set_cons_succ])
  refine one (i := 31) (by kernel_rfl) ?_
  refine wpOp_wanted rfl (by rfl) fun K hK => ?_
  go_simp
  with_reducible refine (HS2.out _ Dd31.out).mono ?_
  rintro e wd32 ⟨rfl, hb⟩
  have Dd32 := Lib.hid (Dd31.out.below hb)
  clear hb
  have Sd32 : (fun W : World => Blk W (ob) 130 [.int .i64 oc, .int .i64 on, .int .i64 k1, .int .i64 k2, .string k3, .int .i64 v1, .int .i64 v2, .string v3] ∧ True) wd32 := ⟨Dd32.out.blk (c := (ob, 130, [.int .i64 oc, .int .i64 on, .int .i64 k1, .int .i64 k2, .string k3, .int .i64 v1, .int .i64 v2, .string v3])) (by simp), trivial⟩
  refine hK _ _ ⟨Sd32, ?_⟩
  clear hK K
  try (conv in (Act.put _ _ _) => simp only [Act.put, List.setIfInBounds_toArray, List.set_cons_zero, List.set_cons_succ])
  refine takeH 32 (oi := ⟨some 82, _, _, _, _, _⟩) (v := ?_) rfl (by kernel_rfl) (by kernel_rfl) (by kernel_rfl) (fun c _ w h => HP c _ _ _ w h) (Or.inl ⟨by rfl, ?_⟩) Sd32 ?_
  rotate_left
  · (intro W hW; (try dsimp only at hW); go_simp; try with_reducible rfl)
  try (conv in (Act.put _ _ _) => simp only [Act.put, List.setIfInBounds_toArray, List.set_cons_zero, List.set_cons_succ])
  refine takeH 33 (oi := ⟨some 83, _, _, _, _, _⟩) (v := ?_) rfl (by kernel_rfl) (by kernel_rfl) (by kernel_rfl) (fun c _ w h => HP c _ _ _ w h) (Or.inl ⟨by rfl, ?_⟩) Sd32 ?_
  rotate_left
  · (intro W hW; (try dsimp only at hW); go_simp; try with_reducible rfl)
  try (conv in (Act.put _ _ _) => simp only [Act.put, List.setIfInBounds_toArray, List.set_cons_zero, List.set_cons_succ])
  refine takeH 34 (oi := ⟨some 84, _, _, _, _, _⟩) (v := ?_) rfl (by kernel_rfl) (by kernel_rfl) (by kernel_rfl) (fun c _ w h => HP c _ _ _ w h) (Or.inl ⟨by rfl, ?_⟩) Sd32 ?_
  rotate_left
  · (intro W hW; (try dsimp only at hW); go_simp; try with_reducible rfl)
  try (conv in (Act.put _ _ _) => simp only [Act.put, List.setIfInBounds_toArray, List.set_cons_zero, List.set_cons_succ])
  refine takeH 35 (oi := ⟨some 85, _, _, _, _, _⟩) (v := ?_) rfl (by kernel_rfl) (by kernel_rfl) (by kernel_rfl) (fun c _ w h => HP c _ _ _ w h) (Or.inl ⟨by rfl, ?_⟩) Sd32 ?_
  rotate_left
  · (intro W hW; (try dsimp only at hW); go_simp; try with_reducible rfl)
  try (conv in (Act.put _ _ _) => simp only [Act.put, List.setIfInBounds_toArray, List.set_cons_zero, List.set_cons_succ])
  refine one (i := 36) (by kernel_rfl) ?_
  refine wpOp_wanted rfl (by rfl) fun K hK => ?_
  go_simp
  with_reducible refine (HM2.out _ Dd32.out).mono ?_
  rintro e wd37 ⟨rfl, hb⟩
  have Dd37 := Lib.hid (Dd32.out.below hb)
  clear hb
  have Sd37 : (fun W : World => Blk W (ob) 130 [.int .i64 oc, .int .i64 on, .int .i64 k1, .int .i64 k2, .string k3, .int .i64 v1, .int .i64 v2, .string v3] ∧ True) wd37 := ⟨Dd37.out.blk (c := (ob, 130, [.int .i64 oc, .int .i64 on, .int .i64 k1, .int .i64 k2, .string k3, .int .i64 v1, .int .i64 v2, .string v3])) (by simp), trivial⟩
  refine hK _ _ ⟨Sd37, ?_⟩
  clear hK K
  try (conv in (Act.put _ _ _) => simp only [Act.put, List.setIfInBounds_toArray, List.set_cons_zero, List.set_cons_succ])
  refine takeH 37 (oi := ⟨some 87, _, _, _, _, _⟩) (v := ?_) rfl (by kernel_rfl) (by kernel_rfl) (by kernel_rfl) (fun c _ w h => HP c _ _ _ w h) (Or.inl ⟨by rfl, ?_⟩) Sd37 ?_
  rotate_left
  · (intro W hW; (try dsimp only at hW); go_simp; try with_reducible rfl)
  try (conv in (Act.put _ _ _) => simp only [Act.put, List.setIfInBounds_toArray, List.set_cons_zero, List.set_cons_succ])
  refine takeH 38 (oi := ⟨some 88, _, _, _, _, _⟩) (v := ?_) rfl (by kernel_rfl) (by kernel_rfl) (by kernel_rfl) (fun c _ w h => HP c _ _ _ w h) (Or.inl ⟨by rfl, ?_⟩) Sd37 ?_
  rotate_left
  · (intro W hW; (try dsimp only at hW); go_simp; try with_reducible rfl)
  try (conv in (Act.put _ _ _) => simp only [Act.put, List.setIfInBounds_toArray, List.set_cons_zero, List.set_cons_succ])
  refine wpAnyH_done (by kernel_rfl) ?_ _
  clear oxd0 oxd1 oxd2 oxd3 oxd4 oxd5 oxd6 oxd7
  exact HQ _ Dd37 _ _ _ _ _ _ _ _ _ _ _ _ _ _ _ _ _ _ _ _ _ _ _ _ _ _ _ _ _ _ _ _ _ _ _ _ _ _
theorem eqp (d t b e n : Nat) (P : Program) (w : World) (h : P.underlying t = some (.pointer e)) (hs : (sizeOf e).run P w = .ok (n + 1) w) : (Op.equalIn (d + 1) t (.pointer (some ⟨b, 0, none⟩)) (.pointer (some ⟨b, 0, none⟩))).run P w = .ok true w := by
  simp [Op.equalIn, run_underlying h, hs, sameAddr]
theorem ptr_neq0 (b : Nat) (W : World) : (binOp .neq 88 (.pointer (some ⟨b, 0, none⟩)) (.pointer (some ⟨b, 0, none⟩))).run Try.prog W = .ok (.bool false) W := by
  have e : (Op.equal 88 (.pointer (some ⟨b, 0, none⟩)) (.pointer (some ⟨b, 0, none⟩))).run Try.prog W = .ok true W := eqp 9999 88 b 202 6 Try.prog W (by kernel_rfl) (by kernel_rfl)
  simp only [binOp]
  simp [e]
theorem ptr_neq (mb : Nat) (r : Option Addr) (h : r = none ∨ r = some ⟨mb, 0, none⟩) (W : World) : (binOp .neq 88 (.pointer r) (.pointer r)).run Try.prog W = .ok (.bool false) W := by
  rcases h with rfl | rfl
  · kernel_rfl
  · exact ptr_neq0 mb W
theorem toBel {f : Nat} {args : Array Value} {v : Value} {W : World} (h : Calls Try.prog f args W (fun e w' => e = .returned v ∧ W = w')) : Calls Try.prog f args W (fun e w' => e = .returned v ∧ Below W.heap.size W w') := h.mono (fun e w' h => ⟨h.1, by rw [← h.2]; exact Below.refl _ _⟩)
/-- A slice of booleans that is only read. -/
def RdB (w : World) (v : Value) (l : List Bool) : Prop := ∃ a c, v = .slice a l.length c ∧ l.length ≤ c ∧ c ≤ maxLen ∧ l.length ≤ 140737488355328 ∧ ∀ j x, l[j]? = some x → ∃ b off, a = some ⟨b, off, none⟩ ∧ w.cell? ⟨b, off + j, none⟩ = some (.bool x)
set_option maxHeartbeats 16000000 in
set_option maxRecDepth 20000 in
theorem tmetas_walk (lv bv : Value) (l : List OpT) (bl : List Bool) (w : World) (hl : RdT14 w lv l) (hbl : RdB w bv bl) : Calls Try.prog 20 #[lv, bv] w fun e w' => e = .returned (.bool true) ∧ Below w.heap.size w w' := by
  have HAL := Lib.hid (fun (W : World) => talive_calls W)
  have HGR := Lib.hid (fun (W : World) (h : RdT14 W lv l) => tgreat_calls lv l W h)
  have HNT := Lib.hid (fun (W : World) (h : Below w.heap.size w W) => show Calls Try.prog 61 #[.int .i64 8, .int .i64 8, .slice none 0 0] W fun e w' => ∃ sb, e = .returned (.pointer (some ⟨sb, 0, none⟩)) ∧ TL w w' (fun _ => False) (some ⟨sb, 0, none⟩) 8 8 T0 0 [] [] ∧ Below W.heap.size W w' from TL.newTree 8 8 (.slice none 0 0) [] w W h (RdS.none W) (fun s hs => by cases hs) (fun b hb => hb.elim))
  have HL := Lib.hid hl
  have HBL := Lib.hid hbl
  obtain ⟨a1, c1, rfl, q1, q2, q3, _⟩ := hl
  obtain ⟨a2, c2, rfl, p1, p2, p3, _⟩ := hbl
  obtain ⟨n1, hn1⟩ : ∃ n, n = l.length := ⟨_, rfl⟩
  obtain ⟨n2, hn2⟩ : ∃ n, n = bl.length := ⟨_, rfl⟩
  have E1 := Lib.hid hn1
  have E2 := Lib.hid hn2
  rw [← hn1] at HL HGR q1 q3 ⊢
  rw [← hn2] at HBL p1 p3 ⊢
  have hc1 : c1 ≤ 9223372036854775807 := q2
  have hc2 : c2 ≤ 9223372036854775807 := p2
  clear hn1 hn2 q2 p2
  go_enter Try.func20, Try.ntmps20
  go_wp2_with fail
  refine (HAL.out _).mono ?_
  rintro e w1 ⟨rfl, hb⟩
  have HB1 := Lib.hid hb
  have HGG := Lib.hid (HGR.out _ (HL.out.below hb (Nat.le_refl _)))
  clear hb
  go_wp2_with fail
  refine HGG.out.mono ?_
  rintro e w2 ⟨gr, rfl, hgr, hb⟩
  have HB2 := Lib.hid (HB1.out.trans (hb.mono HB1.out.size))
  have HGN := Lib.hid hgr
  clear hb hgr HGG HB1
  cases gr with
  | true =>
    go_wp2
    go_ret
    exact ⟨rfl, HB2.out⟩
  | false =>
    have hn3 : n1 ≤ 400 := HGN.out rfl
    have HN3 := Lib.hid hn3
    by_cases h400 : (400 : Int) < (n2 : Int)
    · go_wp2
      go_ret
      exact ⟨rfl, HB2.out⟩
    have h400' : decide ((400 : Int) < (n2 : Int)) = false := decide_eq_false h400
    have hn2b : n2 ≤ 400 := by omega
    have HC : Hid (∀ j x, l[j]? = some x → (x.k.s.size ≤ 140737488355328 ∧ x.v.s.size ≤ 140737488355328) ∧ ∃ b off, a1 = some ⟨b, off, none⟩ ∧ ∀ i u, x.cells[i]? = some u → w.cell? ⟨b, off + j * 8 + i, none⟩ = some u) := Lib.hid (by
      obtain ⟨_, _, e, _, _, _, h⟩ := HL.out
      cases e
      exact h)
    have HCB : Hid (∀ j x, bl[j]? = some x → ∃ b off, a2 = some ⟨b, off, none⟩ ∧ w.cell? ⟨b, off + j, none⟩ = some (.bool x)) := Lib.hid (by
      obtain ⟨_, _, e, _, _, _, h⟩ := HBL.out
      cases e
      exact h)
    have HNF := Lib.hid (HNT.out w2 HB2.out)
    clear HGN h400
    go_upto_region 7 with (first
      | (go_at_call 61; (with_reducible refine HNF.out.mono ?_); rintro e w3 ⟨sb, rfl, h1, _⟩; have D3 := Lib.hid h1; clear h1 HNF; have HX := Lib.hid (D3.out.new rfl))
      | (go_at_call 62; (with_reducible refine HX.out.mono ?_); rintro e w4 ⟨tb, rfl, h1, _⟩; have D4 := Lib.hid h1; clear h1 HX; have HY := Lib.hid (D4.out.new rfl))
      | (go_at_call 62; (with_reducible refine HY.out.mono ?_); rintro e w5 ⟨ub, rfl, h1, _⟩; have D5 := Lib.hid h1; clear h1 HY; have HZ := Lib.hid (D5.out.new rfl))
      | (go_at_call 62; (with_reducible refine HZ.out.mono ?_); rintro e w6 ⟨mb, rfl, h1, _⟩; have D6 := Lib.hid h1; clear h1 HZ))
    have D6 : Hid (TL w w6 (fun _ => False) (some ⟨sb, 0, none⟩) 8 8 T0 0 [(tb, .pointer none, al0), (ub, .pointer none, al0), (mb, .pointer none, al0)] []) := D6
    clear D5 D4 D3 h400'
    go_wp2
    go_loopw [9, 10, 11, 33] (fun want _ _ ii wr => Hid (∃ (k : Nat) (T : List Sh) (s : Tab) (r : Option Addr), (r = none ∨ r = some ⟨mb, 0, none⟩) ∧ k ≤ n1 ∧ ii = .int .i64 k ∧ want = .pointer r ∧ Hid (TL w wr (fun _ => False) (some ⟨sb, 0, none⟩) 8 8 T (2 * k) [(tb, .pointer r, s), (ub, .pointer none, s), (mb, .pointer none, al0)] []))) (fun _ _ _ ii _ => n1 - (intOf ii).toNat)
    case atStart => exact Lib.hid ⟨0, T0, al0, none, .inl rfl, by omega, rfl, rfl, D6⟩
    case round =>
      obtain ⟨k, T, s, r, hr, hk, rfl, rfl, hre⟩ := hrel.out
      have HRR := Lib.hid hr
      clear hr
      clear hrel
      by_cases hlt : k < n1
      · have hkl : k < l.length := by rw [← E1.out]; exact hlt
        obtain ⟨x0, hx0⟩ : ∃ x, l[k]? = some x := ⟨_, List.getElem?_eq_getElem hkl⟩
        obtain ⟨⟨hs1, hs2⟩, b, off, rfl, hcl⟩ := HC.out k x0 hx0
        have hc := fun i u hu => (hre.out.bel.cell (World.block_lt_of_cell? w _ (hcl i u hu))).trans (hcl i u hu)
        obtain ⟨oc, on, ⟨k1, k2, k3⟩, ⟨v1, v2, v3⟩⟩ := x0
        have u0 := hc 0 _ rfl
        have u1 := hc 1 _ rfl
        have u2 := hc 2 _ rfl
        have u3 := hc 3 _ rfl
        have u4 := hc 4 _ rfl
        have u5 := hc 5 _ rfl
        have u6 := hc 6 _ rfl
        have u7 := hc 7 _ rfl
        rw [Nat.add_zero] at u0
        have HKS : Hid (k3.size ≤ maxLen) := Lib.hid (Nat.le_trans hs1 (by decide))
        have HK1 : Hid (2 * k ≤ 99999 ∧ 2 * k + 1 ≤ 99999) := Lib.hid (by omega)
        have D1 := Lib.hid (hre.out.alloc [.int .i64 oc, .int .i64 on, .int .i64 k1, .int .i64 k2, .string k3, .int .i64 v1, .int .i64 v2, .string v3] 130)
        clear hc hcl hx0 hkl hs1 hs2
        go_upto_region 11 with fail
        clear u0 u1 u2 u3 u4 u5 u6 u7
        obtain ⟨ob, hob⟩ : ∃ b, b = wr.heap.size := ⟨_, rfl⟩
        obtain ⟨w1, hw1⟩ : ∃ W, W = wr.alloc (.cells #[.int .i64 oc, .int .i64 on, .int .i64 k1, .int .i64 k2, .string k3, .int .i64 v1, .int .i64 v2, .string v3] 130) := ⟨_, rfl⟩
        have D2 : Hid (TL w w1 (fun _ => False) (some ⟨sb, 0, none⟩) 8 8 T (2 * k) [(tb, .pointer r, s), (ub, .pointer none, s), (mb, .pointer none, al0)] [(ob, 130, [.int .i64 oc, .int .i64 on, .int .i64 k1, .int .i64 k2, .string k3, .int .i64 v1, .int .i64 v2, .string v3])]) := Lib.hid (by rw [hw1, hob]; exact D1.out)
        rw [← hob, ← hw1]
        clear hob hw1 D1 hre
        have hlti := D2.out.lti (i := 0) rfl
        obtain ⟨⟨⟨a1, a2, a3⟩, ⟨b1, b2, b3⟩, an, ae, ai⟩, hans⟩ : ∃ A, A = doAT 8 8 T s ⟨oc, on, ⟨k1, k2, k3⟩, ⟨v1, v2, v3⟩⟩ := ⟨_, rfl⟩
        obtain ⟨s', hs'⟩ : ∃ s', s' = doST 8 8 T s ⟨oc, on, ⟨k1, k2, k3⟩, ⟨v1, v2, v3⟩⟩ := ⟨_, rfl⟩
        obtain ⟨T', hT'⟩ : ∃ T', T' = doTT 8 8 T s ⟨oc, on, ⟨k1, k2, k3⟩, ⟨v1, v2, v3⟩⟩ := ⟨_, rfl⟩
        have htw := do_twice (D := 8) (F := 8) hlti ⟨oc, on, ⟨k1, k2, k3⟩, ⟨v1, v2, v3⟩⟩
        rw [← hT', ← hans, ← hs'] at htw
        have HTW := Lib.hid htw
        have HA := Lib.hid (And.intro hans (And.intro hs' hT'))
        clear htw hans hs' hT' hlti
        have HD1 : ∀ r : Option Addr, Hid (∀ W : World, TL w W (fun _ => False) (some ⟨sb, 0, none⟩) 8 8 T (2 * k) [(tb, .pointer r, s), (ub, .pointer none, s), (mb, .pointer none, al0)] [(ob, 130, [.int .i64 oc, .int .i64 on, .int .i64 k1, .int .i64 k2, .string k3, .int .i64 v1, .int .i64 v2, .string v3])] → Calls Try.prog 86 #[.pointer (some ⟨tb, 0, none⟩), .agg #[.int .i64 oc, .int .i64 on, .int .i64 k1, .int .i64 k2, .string k3, .int .i64 v1, .int .i64 v2, .string v3]] W fun e w' => e = .returned (.agg #[.int .i64 a1, .int .i64 a2, .string a3, .int .i64 b1, .int .i64 b2, .string b3, .int .i64 an, .int .i64 ae, .bool ai]) ∧ TL w w' (fun _ => False) (some ⟨sb, 0, none⟩) 8 8 T' ((2 * k) + 1) [(tb, .pointer r, s'), (ub, .pointer none, s), (mb, .pointer none, al0)] [(ob, 130, [.int .i64 oc, .int .i64 on, .int .i64 k1, .int .i64 k2, .string k3, .int .i64 v1, .int .i64 v2, .string v3])]) := fun r => Lib.hid (fun W hW => by
          refine (hW.do (i := 0) rfl HK1.out.1 ⟨oc, on, ⟨k1, k2, k3⟩, ⟨v1, v2, v3⟩⟩ HKS.out).mono ?_
          rintro e w' ⟨h1, h2, _⟩
          rw [← HA.out.1] at h1
          rw [← HA.out.2.1, ← HA.out.2.2] at h2
          exact ⟨h1, h2⟩)
        have HD2 : ∀ r : Option Addr, Hid (∀ W : World, TL w W (fun _ => False) (some ⟨sb, 0, none⟩) 8 8 T' ((2 * k) + 1) [(tb, .pointer r, s'), (ub, .pointer none, s), (mb, .pointer none, al0)] [(ob, 130, [.int .i64 oc, .int .i64 on, .int .i64 k1, .int .i64 k2, .string k3, .int .i64 v1, .int .i64 v2, .string v3])] → Calls Try.prog 86 #[.pointer (some ⟨ub, 0, none⟩), .agg #[.int .i64 oc, .int .i64 on, .int .i64 k1, .int .i64 k2, .string k3, .int .i64 v1, .int .i64 v2, .string v3]] W fun e w' => e = .returned (.agg #[.int .i64 a1, .int .i64 a2, .string a3, .int .i64 b1, .int .i64 b2, .string b3, .int .i64 an, .int .i64 ae, .bool ai]) ∧ TL w w' (fun _ => False) (some ⟨sb, 0, none⟩) 8 8 T' ((2 * k) + 1 + 1) [(tb, .pointer r, s'), (ub, .pointer none, s'), (mb, .pointer none, al0)] [(ob, 130, [.int .i64 oc, .int .i64 on, .int .i64 k1, .int .i64 k2, .string k3, .int .i64 v1, .int .i64 v2, .string v3])]) := fun r => Lib.hid (fun W hW => by
          refine (hW.do (i := 1) rfl HK1.out.2 ⟨oc, on, ⟨k1, k2, k3⟩, ⟨v1, v2, v3⟩⟩ HKS.out).mono ?_
          rintro e w' ⟨h1, h2, _⟩
          rw [HTW.out.1] at h1
          rw [HTW.out.2.1, HTW.out.2.2] at h2
          exact ⟨h1, h2⟩)
        have HM1 : ∀ r : Option Addr, Hid (∀ W : World, TL w W (fun _ => False) (some ⟨sb, 0, none⟩) 8 8 T' ((2 * k) + 1 + 1) [(tb, .pointer r, s'), (ub, .pointer none, s'), (mb, .pointer none, al0)] [(ob, 130, [.int .i64 oc, .int .i64 on, .int .i64 k1, .int .i64 k2, .string k3, .int .i64 v1, .int .i64 v2, .string v3])] → Calls Try.prog 84 #[.pointer (some ⟨tb, 0, none⟩)] W fun e w' => e = .returned (.pointer r) ∧ Below W.heap.size W w') := fun r => Lib.hid (fun W hW => toBel (hW.meta_ (i := 0) rfl))
        have HM2 : ∀ r : Option Addr, Hid (∀ W : World, TL w W (fun _ => False) (some ⟨sb, 0, none⟩) 8 8 T' ((2 * k) + 1 + 1) [(tb, .pointer r, s'), (ub, .pointer none, s'), (mb, .pointer none, al0)] [(ob, 130, [.int .i64 oc, .int .i64 on, .int .i64 k1, .int .i64 k2, .string k3, .int .i64 v1, .int .i64 v2, .string v3])] → Calls Try.prog 84 #[.pointer (some ⟨ub, 0, none⟩)] W fun e w' => e = .returned (.pointer none) ∧ Below W.heap.size W w') := fun r => Lib.hid (fun W hW => toBel (hW.meta_ (i := 1) rfl))
        have HL1 : ∀ r : Option Addr, Hid (∀ W : World, TL w W (fun _ => False) (some ⟨sb, 0, none⟩) 8 8 T' ((2 * k) + 1 + 1) [(tb, .pointer r, s'), (ub, .pointer none, s'), (mb, .pointer none, al0)] [(ob, 130, [.int .i64 oc, .int .i64 on, .int .i64 k1, .int .i64 k2, .string k3, .int .i64 v1, .int .i64 v2, .string v3])] → Calls Try.prog 72 #[.pointer (some ⟨tb, 0, none⟩)] W fun e w' => e = .returned (.int .i64 (s'.A.length : Nat)) ∧ Below W.heap.size W w') := fun r => Lib.hid (fun W hW => toBel (hW.len (i := 0) rfl))
        have HL2 : ∀ r : Option Addr, Hid (∀ W : World, TL w W (fun _ => False) (some ⟨sb, 0, none⟩) 8 8 T' ((2 * k) + 1 + 1) [(tb, .pointer r, s'), (ub, .pointer none, s'), (mb, .pointer none, al0)] [(ob, 130, [.int .i64 oc, .int .i64 on, .int .i64 k1, .int .i64 k2, .string k3, .int .i64 v1, .int .i64 v2, .string v3])] → Calls Try.prog 72 #[.pointer (some ⟨ub, 0, none⟩)] W fun e w' => e = .returned (.int .i64 (s'.A.length : Nat)) ∧ Below W.heap.size W w') := fun r => Lib.hid (fun W hW => toBel (hW.len (i := 1) rfl))
        have HO1 : ∀ r : Option Addr, Hid (∀ W : World, TL w W (fun _ => False) (some ⟨sb, 0, none⟩) 8 8 T' ((2 * k) + 1 + 1) [(tb, .pointer r, s'), (ub, .pointer none, s'), (mb, .pointer none, al0)] [(ob, 130, [.int .i64 oc, .int .i64 on, .int .i64 k1, .int .i64 k2, .string k3, .int .i64 v1, .int .i64 v2, .string v3])] → Calls Try.prog 64 #[.pointer (some ⟨tb, 0, none⟩)] W fun e w' => e = .returned (.int .i64 (if s'.h then 2 else 1)) ∧ Below W.heap.size W w') := fun r => Lib.hid (fun W hW => toBel (hW.mode (i := 0) rfl))
        have HO2 : ∀ r : Option Addr, Hid (∀ W : World, TL w W (fun _ => False) (some ⟨sb, 0, none⟩) 8 8 T' ((2 * k) + 1 + 1) [(tb, .pointer r, s'), (ub, .pointer none, s'), (mb, .pointer none, al0)] [(ob, 130, [.int .i64 oc, .int .i64 on, .int .i64 k1, .int .i64 k2, .string k3, .int .i64 v1, .int .i64 v2, .string v3])] → Calls Try.prog 64 #[.pointer (some ⟨ub, 0, none⟩)] W fun e w' => e = .returned (.int .i64 (if s'.h then 2 else 1)) ∧ Below W.heap.size W w') := fun r => Lib.hid (fun W hW => toBel (hW.mode (i := 1) rfl))
        have HS1 : ∀ r : Option Addr, Hid (∀ W : World, TL w W (fun _ => False) (some ⟨sb, 0, none⟩) 8 8 T' ((2 * k) + 1 + 1) [(tb, .pointer r, s'), (ub, .pointer none, s'), (mb, .pointer none, al0)] [(ob, 130, [.int .i64 oc, .int .i64 on, .int .i64 k1, .int .i64 k2, .string k3, .int .i64 v1, .int .i64 v2, .string v3])] → Calls Try.prog 65 #[.pointer (some ⟨tb, 0, none⟩)] W fun e w' => e = .returned (.int .i64 (if s'.h then -1 else (s'.i : Int))) ∧ Below W.heap.size W w') := fun r => Lib.hid (fun W hW => toBel (hW.shape (i := 0) rfl))
        have HS2 : ∀ r : Option Addr, Hid (∀ W : World, TL w W (fun _ => False) (some ⟨sb, 0, none⟩) 8 8 T' ((2 * k) + 1 + 1) [(tb, .pointer r, s'), (ub, .pointer none, s'), (mb, .pointer none, al0)] [(ob, 130, [.int .i64 oc, .int .i64 on, .int .i64 k1, .int .i64 k2, .string k3, .int .i64 v1, .int .i64 v2, .string v3])] → Calls Try.prog 65 #[.pointer (some ⟨ub, 0, none⟩)] W fun e w' => e = .returned (.int .i64 (if s'.h then -1 else (s'.i : Int))) ∧ Below W.heap.size W w') := fun r => Lib.hid (fun W hW => toBel (hW.shape (i := 1) rfl))
        have hkn : ((k : Int) < (n2 : Int)) ∨ ¬ ((k : Int) < (n2 : Int)) := by omega
        have hturn : (∃ b, bl[k]? = some b ∧ (k : Int) < (n2 : Int)) ∨ ¬ ((k : Int) < (n2 : Int)) := by
          rcases hkn with h | h
          · exact .inl ⟨bl[k]'(by rw [← E2.out]; omega), List.getElem?_eq_getElem _, h⟩
          · exact .inr h
        clear hkn
        rcases hturn with ⟨bb, hbb, hkn⟩ | hkn
        focus
          obtain ⟨b', off', rfl, hcb⟩ := HCB.out k bb hbb
          have hcb' := (D2.out.bel.cell (World.block_lt_of_cell? w _ hcb)).trans hcb
          have HSN := Lib.hid (D2.out.setMeta (i := 0) rfl none)
          have HSM := Lib.hid (D2.out.setMeta (i := 0) rfl (some ⟨mb, 0, none⟩))
          clear hcb hbb
          cases bb
          focus
            go_upto_region 16 with (go_at_call 90; (with_reducible refine HSN.out.mono ?_); rintro e w7 ⟨rfl, hh, _⟩; have D8 : Hid (TL w w7 (fun _ => False) (some ⟨sb, 0, none⟩) 8 8 T (2 * k) [(tb, .pointer none, s), (ub, .pointer none, s), (mb, .pointer none, al0)] [(ob, 130, [.int .i64 oc, .int .i64 on, .int .i64 k1, .int .i64 k2, .string k3, .int .i64 v1, .int .i64 v2, .string v3])]) := Lib.hid hh; clear hh)
            have HR8 : Hid ((none : Option Addr) = none ∨ (none : Option Addr) = some ⟨mb, 0, none⟩) := Lib.hid (.inl rfl)
          rotate_left
          focus
            go_upto_region 16 with (go_at_call 90; (with_reducible refine HSM.out.mono ?_); rintro e w7 ⟨rfl, hh, _⟩; have D8 : Hid (TL w w7 (fun _ => False) (some ⟨sb, 0, none⟩) 8 8 T (2 * k) [(tb, .pointer (some ⟨mb, 0, none⟩), s), (ub, .pointer none, s), (mb, .pointer none, al0)] [(ob, 130, [.int .i64 oc, .int .i64 on, .int .i64 k1, .int .i64 k2, .string k3, .int .i64 v1, .int .i64 v2, .string v3])]) := Lib.hid hh; clear hh)
            have HR8 : Hid ((some ⟨mb, 0, none⟩ : Option Addr) = none ∨ (some ⟨mb, 0, none⟩ : Option Addr) = some ⟨mb, 0, none⟩) := Lib.hid (.inr rfl)
        rotate_left
        rotate_left
        focus
          have hkn' : decide ((k : Int) < (n2 : Int)) = false := decide_eq_false hkn
          go_upto_region 16 with fail
          have D8 := D2
          have HR8 := HRR
        all_goals
          refine tm_reg16 (ptr_neq mb _ HR8.out) (HD1 _) (HD2 _) (HM1 _) (HL1 _) (HL2 _) (HO1 _) (HO2 _) (HS1 _) (HS2 _) (HM2 _) D8 (fun _ _ _ _ _ h => h) ?_
          intro w9 D9
          intros
          have D10 := Lib.hid D9.out.drop
          clear D8 D9
          go_wp2
          go_roundw
          case rel => exact Lib.hid ⟨k + 1, T', s', _, HR8.out, by omega, by go_num, rfl, D10⟩
          case measure => simp [intOf]; omega
      · obtain rfl : k = n1 := by omega
        have HNX := Lib.hid (hre.out.next (i := 2) rfl Val.nil (by decide) (by have := HN3.out; omega))
        have HNX : Hid (Calls Try.prog 73 #[.pointer (some ⟨mb, 0, none⟩), .agg #[.int .i64 0, .int .i64 0, .string Val.e]] wr fun e w' => e = .returned (.tuple #[.agg #[.int .i64 0, .int .i64 0, .string Val.e], .agg #[.int .i64 0, .int .i64 0, .string Val.e], .int .i64 0]) ∧ Below wr.heap.size wr w') := HNX
        go_wp2_with (go_at_call 73; (with_reducible refine HNX.out.mono ?_); rintro e w8 ⟨rfl, hb⟩; have D8 := Lib.hid (hre.out.below hb); clear hb)
        go_ret
        exact ⟨rfl, (D8.out.bel.alloc D8.out.bel.size _).alloc (by simp; have := D8.out.bel.size; omega) _⟩
end Go.Proofs.Ytmjfmfelbmbniaa
