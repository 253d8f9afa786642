/- Layer 15: the law MetaBooks. -/
import Derived.Test.YtmjfmfelbmbniaaMeE
namespace Go.Proofs.Ytmjfmfelbmbniaa
open Go.RowKit Go.Maps HK ShM
set_option linter.unusedVariables false
set_option linter.unusedSimpArgs false
open RH
def ptrV (b : Nat) : Value := .pointer (some ⟨b, 0, none⟩)
def ptrIf (p : Bool) (b : Nat) : Value := if p then .pointer (some ⟨b, 0, none⟩) else .pointer none
abbrev newT (b : Nat) : T3 := (b, .pointer none, ⟨[], [], false, 0⟩)
theorem deep64 (deep : Int) : min (max (64 : Int) 0) 64 = 64 := by decide
theorem wrapu_nonneg (a : Int) : 0 ≤ IntKind.u64.wrap a := by
  unfold IntKind.wrap
  simp [IntKind.signed, IntKind.bits]
  omega
theorem mod4 (a : Int) : ∃ x : Nat, x < 4 ∧ (IntKind.u64.wrap a).tmod 4 = (x : Int) := by
  rw [Int.tmod_eq_emod_of_nonneg (wrapu_nonneg a)]
  exact ⟨(IntKind.u64.wrap a % 4).toNat, by omega, by omega⟩
def findReg (n : Nat) : Code → Option (Array Oper)
  | .region m o _ => if m = n then some o else none
  | .seq a b => (findReg n a).or (findReg n b)
  | .cond _ a b => (findReg n a).or (findReg n b)
  | .block _ a => findReg n a
  | .loop a => findReg n a
  | .scope a => findReg n a
  | _ => none
/-- The operations of a function's region. -/
def regOf (f : Func) (n : Nat) : Array Oper := ((f.body.bind (findReg n)).getD #[])
set_option maxHeartbeats 16000000 in
set_option maxRecDepth 20000 in
theorem mb_reg29 {w w5 : World} {sb k wb ob ab t0 t1 t2 t3 bb px : Nat} {dp g1 g2 oa obb v1 v2 ep3 : Int} {TT : List Sh} {tabs3 : List T3} {g3 os v3 : ByteArray} {ocv : Value} {Q : Exit → Act → World → Prop} {u0 u1 u2 u3 u4 u5 u6 u7 u8 u11 u12 u13 u16 u18 u19 u20 u21 u22 u23 u24 u25 u26 u27 u28 u29 u30 u31 u32 u33 u34 u35 u36 u37 u38 u39 u40 u41 u42 u43 u44 u45 u46 u47 u48 u49 u50 u51 u52 u53 u54 u55 u56 u57 u58 u59 u60 u61 u62 u63 u64 u65 u66 u67 u68 u69 u70 u71 u72 u73 u74 u75 u76 u77 u78 u79 u80 u81 u82 u83 u84 u85 u86 u87 u88 u89 u90 u91 u92 u93 u94 u95 u96 u97 u98 u99 u100 u101 u102 u103 u104 u105 u106 u107 u108 u109 u110 u111 u112 u113 u114 u115 u116 u117 u118 u119 u120 u121 u122 u123 u124 u125 u126 u127 u128 u129 u130 u131 u132 u133 u134 : Value}
    (HF0 : Hid (∀ W : World, TL w W (fun _ => False) (some ⟨sb, 0, none⟩) dp 64 TT (k + 1) tabs3 [(wb, 57, [.int .i64 g1, .int .i64 g2, .string g3]), (ob, 110, [ocv, .int .i64 oa, .int .i64 obb, .string os, .int .i64 v1, .int .i64 v2, .string v3]), (ab, 105, [.pointer (some ⟨t0, 0, none⟩), .pointer (some ⟨t1, 0, none⟩), .pointer (some ⟨t2, 0, none⟩), .pointer (some ⟨t3, 0, none⟩)]), (bb, 207, [.pointer (some ⟨sb, 0, none⟩), .int .u64 ep3])] → Calls Try.prog 80 #[.pointer (some ⟨bb, 0, none⟩), .pointer (some ⟨px, 0, none⟩), .string os] W fun e w' => e = .returned (.agg #[.int .i64 g1, .int .i64 g2, .string g3]) ∧ Below W.heap.size W w'))
    (HF1 : Hid (∀ W : World, TL w W (fun _ => False) (some ⟨sb, 0, none⟩) dp 64 TT (k + 1) tabs3 [(wb, 57, [.int .i64 g1, .int .i64 g2, .string g3]), (ob, 110, [ocv, .int .i64 oa, .int .i64 obb, .string os, .int .i64 v1, .int .i64 v2, .string v3]), (ab, 105, [.pointer (some ⟨t0, 0, none⟩), .pointer (some ⟨t1, 0, none⟩), .pointer (some ⟨t2, 0, none⟩), .pointer (some ⟨t3, 0, none⟩)]), (bb, 207, [.pointer (some ⟨sb, 0, none⟩), .int .u64 ep3])] → Calls Try.prog 80 #[.pointer none, .pointer (some ⟨px, 0, none⟩), .string os] W fun e w' => e = .returned (.agg #[.int .i64 g1, .int .i64 g2, .string g3]) ∧ Below W.heap.size W w'))
    (HF2 : Hid (∀ W : World, TL w W (fun _ => False) (some ⟨sb, 0, none⟩) dp 64 TT (k + 1) tabs3 [(wb, 57, [.int .i64 g1, .int .i64 g2, .string g3]), (ob, 110, [ocv, .int .i64 oa, .int .i64 obb, .string os, .int .i64 v1, .int .i64 v2, .string v3]), (ab, 105, [.pointer (some ⟨t0, 0, none⟩), .pointer (some ⟨t1, 0, none⟩), .pointer (some ⟨t2, 0, none⟩), .pointer (some ⟨t3, 0, none⟩)]), (bb, 207, [.pointer (some ⟨sb, 0, none⟩), .int .u64 ep3])] → Calls Try.prog 81 #[.pointer (some ⟨px, 0, none⟩), .string os] W fun e w' => e = .returned (.agg #[.int .i64 g1, .int .i64 g2, .string g3]) ∧ Below W.heap.size W w'))
    (HF3 : Hid (∀ W : World, TL w W (fun _ => False) (some ⟨sb, 0, none⟩) dp 64 TT (k + 1) tabs3 [(wb, 57, [.int .i64 g1, .int .i64 g2, .string g3]), (ob, 110, [ocv, .int .i64 oa, .int .i64 obb, .string os, .int .i64 v1, .int .i64 v2, .string v3]), (ab, 105, [.pointer (some ⟨t0, 0, none⟩), .pointer (some ⟨t1, 0, none⟩), .pointer (some ⟨t2, 0, none⟩), .pointer (some ⟨t3, 0, none⟩)]), (bb, 207, [.pointer (some ⟨sb, 0, none⟩), .int .u64 ep3])] → Calls Try.prog 82 #[.pointer (some ⟨bb, 0, none⟩), .pointer (some ⟨px, 0, none⟩), .pointer (some ⟨px, 0, none⟩), .string os] W fun e w' => e = .returned (.agg #[.int .i64 g1, .int .i64 g2, .string g3]) ∧ Below W.heap.size W w'))
    (HF4 : Hid (∀ W : World, TL w W (fun _ => False) (some ⟨sb, 0, none⟩) dp 64 TT (k + 1) tabs3 [(wb, 57, [.int .i64 g1, .int .i64 g2, .string g3]), (ob, 110, [ocv, .int .i64 oa, .int .i64 obb, .string os, .int .i64 v1, .int .i64 v2, .string v3]), (ab, 105, [.pointer (some ⟨t0, 0, none⟩), .pointer (some ⟨t1, 0, none⟩), .pointer (some ⟨t2, 0, none⟩), .pointer (some ⟨t3, 0, none⟩)]), (bb, 207, [.pointer (some ⟨sb, 0, none⟩), .int .u64 ep3])] → Calls Try.prog 82 #[.pointer (some ⟨bb, 0, none⟩), .pointer none, .pointer (some ⟨px, 0, none⟩), .string os] W fun e w' => e = .returned (.agg #[.int .i64 g1, .int .i64 g2, .string g3]) ∧ Below W.heap.size W w'))
    (D5 : Hid (TL w w5 (fun _ => False) (some ⟨sb, 0, none⟩) dp 64 TT (k + 1) tabs3 [(wb, 57, [.int .i64 g1, .int .i64 g2, .string g3]), (ob, 110, [ocv, .int .i64 oa, .int .i64 obb, .string os, .int .i64 v1, .int .i64 v2, .string v3]), (ab, 105, [.pointer (some ⟨t0, 0, none⟩), .pointer (some ⟨t1, 0, none⟩), .pointer (some ⟨t2, 0, none⟩), .pointer (some ⟨t3, 0, none⟩)]), (bb, 207, [.pointer (some ⟨sb, 0, none⟩), .int .u64 ep3])])) (HP : ∀ c (a : Act) (d : Nat) v w, Q (.panic c) (a.put (some d) v) w → Q (.panic c) a w)
    (HQ : ∀ w6, Hid (TL w w6 (fun _ => False) (some ⟨sb, 0, none⟩) dp 64 TT (k + 1) tabs3 [(wb, 57, [.int .i64 g1, .int .i64 g2, .string g3]), (ob, 110, [ocv, .int .i64 oa, .int .i64 obb, .string os, .int .i64 v1, .int .i64 v2, .string v3]), (ab, 105, [.pointer (some ⟨t0, 0, none⟩), .pointer (some ⟨t1, 0, none⟩), .pointer (some ⟨t2, 0, none⟩), .pointer (some ⟨t3, 0, none⟩)]), (bb, 207, [.pointer (some ⟨sb, 0, none⟩), .int .u64 ep3])]) → ∀ (v82 v83 v84 v85 v86 v87 v88 v89 v90 v91 v92 v93 v94 v95 v96 v97 v98 v99 v100 v101 v102 v103 v104 v105 v106 v107 v108 v109 v110 v111 v112 v113 v114 v115 v116 v117 v118 v119 v120 v121 v122 v123 : Value), Q .normal ⟨#[u0, u1, u2, u3, u4, u5, u6, u7, u8, .pointer (some ⟨bb, 0, none⟩), .pointer none, u11, u12, u13, .pointer (some ⟨ob, 0, none⟩), .pointer (some ⟨px, 0, none⟩), u16, .pointer (some ⟨wb, 0, none⟩), u18, u19, u20, u21, u22, u23, u24, u25, u26, u27, u28, u29, u30, u31, u32, u33, u34, u35, u36, u37, u38, u39, u40, u41, u42, u43, u44, u45, u46, u47, u48, u49, u50, u51, u52, u53, u54, u55, u56, u57, u58, u59, u60, u61, u62, u63, u64, u65, u66, u67, u68, u69, u70, u71, u72, u73, u74, u75, u76, u77, u78, u79, u80, u81, v82, v83, v84, v85, v86, v87, v88, v89, v90, v91, v92, v93, v94, v95, v96, v97, v98, v99, v100, v101, v102, v103, v104, v105, v106, v107, v108, v109, v110, v111, v112, v113, v114, v115, v116, v117, v118, v119, v120, v121, v122, v123, .bool false, u125, u126, u127, u128, u129, u130, u131, u132, u133, u134], []⟩ w6) : (Code.region 29 (regOf Try.f15 29) true).wp Try.prog Q ⟨#[u0, u1, u2, u3, u4, u5, u6, u7, u8, .pointer (some ⟨bb, 0, none⟩), .pointer none, u11, u12, u13, .pointer (some ⟨ob, 0, none⟩), .pointer (some ⟨px, 0, none⟩), u16, .pointer (some ⟨wb, 0, none⟩), u18, u19, u20, u21, u22, u23, u24, u25, u26, u27, u28, u29, u30, u31, u32, u33, u34, u35, u36, u37, u38, u39, u40, u41, u42, u43, u44, u45, u46, u47, u48, u49, u50, u51, u52, u53, u54, u55, u56, u57, u58, u59, u60, u61, u62, u63, u64, u65, u66, u67, u68, u69, u70, u71, u72, u73, u74, u75, u76, u77, u78, u79, u80, u81, u82, u83, u84, u85, u86, u87, u88, u89, u90, u91, u92, u93, u94, u95, u96, u97, u98, u99, u100, u101, u102, u103, u104, u105, u106, u107, u108, u109, u110, u111, u112, u113, u114, u115, u116, u117, u118, u119, u120, u121, u122, u123, u124, u125, u126, u127, u128, u129, u130, u131, u132, u133, u134], []⟩ w5 := by
  simp only [regOf, Try.f15, findReg, Option.bind_some, Option.getD_some, Option.none_or, Option.some_or, Option.or_none, reduceCtorEq, if_false, if_true, Nat.reduceEqDiff]
  have BLd : Below w5.heap.size w5 ({ w5 with drawn := w5.drawn + 1 } : World) := ⟨rfl, rfl, rfl, Nat.le_refl _, fun _ _ => rfl⟩
  have Dd := Lib.hid (D5.out.below BLd)
  refine wp_region_held (S := fun W : World => Blk W (wb) 57 [.int .i64 g1, .int .i64 g2, .string g3] ∧ Blk W (ob) 110 [ocv, .int .i64 oa, .int .i64 obb, .string os, .int .i64 v1, .int .i64 v2, .string v3] ∧ True) (by kernel_rfl) ?_
  generalize ({ w5 with drawn := w5.drawn + 1 } : World) = wd at BLd Dd ⊢
  have hSd : (fun W : World => Blk W (wb) 57 [.int .i64 g1, .int .i64 g2, .string g3] ∧ Blk W (ob) 110 [ocv, .int .i64 oa, .int .i64 obb, .string os, .int .i64 v1, .int .i64 v2, .string v3] ∧ True) wd := ⟨Dd.out.blk (c := (wb, 57, [.int .i64 g1, .int .i64 g2, .string g3])) (by simp), Dd.out.blk (c := (ob, 110, [ocv, .int .i64 oa, .int .i64 obb, .string os, .int .i64 v1, .int .i64 v2, .string v3])) (by simp), trivial⟩
  have wxd0 : ∀ W : World, (Blk W (wb) 57 [.int .i64 g1, .int .i64 g2, .string g3] ∧ Blk W (ob) 110 [ocv, .int .i64 oa, .int .i64 obb, .string os, .int .i64 v1, .int .i64 v2, .string v3] ∧ True) → W.cell? ⟨wb, 0, none⟩ = some (.int .i64 g1) := fun W hW => hW.1.cell 0 _ rfl
  have wxd1 : ∀ W : World, (Blk W (wb) 57 [.int .i64 g1, .int .i64 g2, .string g3] ∧ Blk W (ob) 110 [ocv, .int .i64 oa, .int .i64 obb, .string os, .int .i64 v1, .int .i64 v2, .string v3] ∧ True) → W.cell? ⟨wb, 1, none⟩ = some (.int .i64 g2) := fun W hW => hW.1.cell 1 _ rfl
  have wxd2 : ∀ W : World, (Blk W (wb) 57 [.int .i64 g1, .int .i64 g2, .string g3] ∧ Blk W (ob) 110 [ocv, .int .i64 oa, .int .i64 obb, .string os, .int .i64 v1, .int .i64 v2, .string v3] ∧ True) → W.cell? ⟨wb, 2, none⟩ = some (.string g3) := fun W hW => hW.1.cell 2 _ rfl
  have oyd0 : ∀ W : World, (Blk W (wb) 57 [.int .i64 g1, .int .i64 g2, .string g3] ∧ Blk W (ob) 110 [ocv, .int .i64 oa, .int .i64 obb, .string os, .int .i64 v1, .int .i64 v2, .string v3] ∧ True) → W.cell? ⟨ob, 0, none⟩ = some (ocv) := fun W hW => hW.2.1.cell 0 _ rfl
  have oyd1 : ∀ W : World, (Blk W (wb) 57 [.int .i64 g1, .int .i64 g2, .string g3] ∧ Blk W (ob) 110 [ocv, .int .i64 oa, .int .i64 obb, .string os, .int .i64 v1, .int .i64 v2, .string v3] ∧ True) → W.cell? ⟨ob, 1, none⟩ = some (.int .i64 oa) := fun W hW => hW.2.1.cell 1 _ rfl
  have oyd2 : ∀ W : World, (Blk W (wb) 57 [.int .i64 g1, .int .i64 g2, .string g3] ∧ Blk W (ob) 110 [ocv, .int .i64 oa, .int .i64 obb, .string os, .int .i64 v1, .int .i64 v2, .string v3] ∧ True) → W.cell? ⟨ob, 2, none⟩ = some (.int .i64 obb) := fun W hW => hW.2.1.cell 2 _ rfl
  have oyd3 : ∀ W : World, (Blk W (wb) 57 [.int .i64 g1, .int .i64 g2, .string g3] ∧ Blk W (ob) 110 [ocv, .int .i64 oa, .int .i64 obb, .string os, .int .i64 v1, .int .i64 v2, .string v3] ∧ True) → W.cell? ⟨ob, 3, none⟩ = some (.string os) := fun W hW => hW.2.1.cell 3 _ rfl
  have oyd4 : ∀ W : World, (Blk W (wb) 57 [.int .i64 g1, .int .i64 g2, .string g3] ∧ Blk W (ob) 110 [ocv, .int .i64 oa, .int .i64 obb, .string os, .int .i64 v1, .int .i64 v2, .string v3] ∧ True) → W.cell? ⟨ob, 4, none⟩ = some (.int .i64 v1) := fun W hW => hW.2.1.cell 4 _ rfl
  have oyd5 : ∀ W : World, (Blk W (wb) 57 [.int .i64 g1, .int .i64 g2, .string g3] ∧ Blk W (ob) 110 [ocv, .int .i64 oa, .int .i64 obb, .string os, .int .i64 v1, .int .i64 v2, .string v3] ∧ True) → W.cell? ⟨ob, 5, none⟩ = some (.int .i64 v2) := fun W hW => hW.2.1.cell 5 _ rfl
  have oyd6 : ∀ W : World, (Blk W (wb) 57 [.int .i64 g1, .int .i64 g2, .string g3] ∧ Blk W (ob) 110 [ocv, .int .i64 oa, .int .i64 obb, .string os, .int .i64 v1, .int .i64 v2, .string v3] ∧ True) → W.cell? ⟨ob, 6, none⟩ = some (.string v3) := fun W hW => hW.2.1.cell 6 _ rfl
  refine takeH 0 (oi := ⟨some 82, _, _, _, _, _⟩) (v := ?_) rfl (by kernel_rfl) (by kernel_rfl) (by kernel_rfl) (fun c _ w h => HP c _ _ _ w h) (Or.inl ⟨by rfl, ?_⟩) hSd ?_
  rotate_left
  · (intro W hW; (try dsimp only at hW); go_simp; try with_reducible rfl)
  try (conv in (Act.put _ _ _) => simp only [Act.put, List.setIfInBounds_toArray, List.set_cons_zero, List.set_cons_succ])
  refine takeH 1 (oi := ⟨some 83, _, _, _, _, _⟩) (v := ?_) rfl (by kernel_rfl) (by kernel_rfl) (by kernel_rfl) (fun c _ w h => HP c _ _ _ w h) (Or.inl ⟨by rfl, ?_⟩) hSd ?_
  rotate_left
  · (intro W hW; (try dsimp only at hW); go_simp; try with_reducible rfl)
  try (conv in (Act.put _ _ _) => simp only [Act.put, List.setIfInBounds_toArray, List.set_cons_zero, List.set_cons_succ])
  refine takeH 2 (oi := ⟨some 84, _, _, _, _, _⟩) (v := ?_) rfl (by kernel_rfl) (by kernel_rfl) (by kernel_rfl) (fun c _ w h => HP c _ _ _ w h) (Or.inl ⟨by rfl, ?_⟩) hSd ?_
  rotate_left
  · (intro W hW; (try dsimp only at hW); go_simp; try with_reducible rfl)
  try (conv in (Act.put _ _ _) => simp only [Act.put, List.setIfInBounds_toArray, List.set_cons_zero, List.set_cons_succ])
  refine takeH 3 (oi := ⟨some 85, _, _, _, _, _⟩) (v := ?_) rfl (by kernel_rfl) (by kernel_rfl) (by kernel_rfl) (fun c _ w h => HP c _ _ _ w h) (Or.inl ⟨by rfl, ?_⟩) hSd ?_
  rotate_left
  · (intro W hW; (try dsimp only at hW); go_simp; try with_reducible rfl)
  try (conv in (Act.put _ _ _) => simp only [Act.put, List.setIfInBounds_toArray, List.set_cons_zero, List.set_cons_succ])
  refine takeH 5 (oi := ⟨some 87, _, _, _, _, _⟩) (v := ?_) rfl (by kernel_rfl) (by kernel_rfl) (by kernel_rfl) (fun c _ w h => HP c _ _ _ w h) (Or.inl ⟨by rfl, ?_⟩) hSd ?_
  rotate_left
  · (intro W hW; (try dsimp only at hW); go_simp; try with_reducible rfl)
  try (conv in (Act.put _ _ _) => simp only [Act.put, List.setIfInBounds_toArray, List.set_cons_zero, List.set_cons_succ])
  refine one (i := 4) (by kernel_rfl) ?_
  refine wpOp_wanted rfl (by rfl) fun K hK => ?_
  go_simp
  with_reducible refine (HF0.out _ Dd.out).mono ?_
  rintro e wd6 ⟨rfl, hb⟩
  have Dd6 := Lib.hid (Dd.out.below hb)
  clear hb
  have Sd6 : (fun W : World => Blk W (wb) 57 [.int .i64 g1, .int .i64 g2, .string g3] ∧ Blk W (ob) 110 [ocv, .int .i64 oa, .int .i64 obb, .string os, .int .i64 v1, .int .i64 v2, .string v3] ∧ True) wd6 := ⟨Dd6.out.blk (c := (wb, 57, [.int .i64 g1, .int .i64 g2, .string g3])) (by simp), Dd6.out.blk (c := (ob, 110, [ocv, .int .i64 oa, .int .i64 obb, .string os, .int .i64 v1, .int .i64 v2, .string v3])) (by simp), trivial⟩
  refine hK _ _ ⟨Sd6, ?_⟩
  clear hK K
  try (conv in (Act.put _ _ _) => simp only [Act.put, List.setIfInBounds_toArray, List.set_cons_zero, List.set_cons_succ])
  refine takeH 6 (oi := ⟨some 88, _, _, _, _, _⟩) (v := ?_) rfl (by kernel_rfl) (by kernel_rfl) (by kernel_rfl) (fun c _ w h => HP c _ _ _ w h) (Or.inl ⟨by rfl, ?_⟩) Sd6 ?_
  rotate_left
  · (intro W hW; (try dsimp only at hW); go_simp; try with_reducible rfl)
  try (conv in (Act.put _ _ _) => simp only [Act.put, List.setIfInBounds_toArray, List.set_cons_zero, List.set_cons_succ])
  refine takeH 7 (oi := ⟨some 89, _, _, _, _, _⟩) (v := ?_) rfl (by kernel_rfl) (by kernel_rfl) (by kernel_rfl) (fun c _ w h => HP c _ _ _ w h) (Or.inl ⟨by rfl, ?_⟩) Sd6 ?_
  rotate_left
  · (intro W hW; (try dsimp only at hW); go_simp; try with_reducible rfl)
  try (conv in (Act.put _ _ _) => simp only [Act.put, List.setIfInBounds_toArray, List.set_cons_zero, List.set_cons_succ])
  refine takeH 8 (oi := ⟨some 90, _, _, _, _, _⟩) (v := ?_) rfl (by kernel_rfl) (by kernel_rfl) (by kernel_rfl) (fun c _ w h => HP c _ _ _ w h) (Or.inl ⟨by rfl, ?_⟩) Sd6 ?_
  rotate_left
  · (intro W hW; (try dsimp only at hW); go_simp; try with_reducible rfl)
  try (conv in (Act.put _ _ _) => simp only [Act.put, List.setIfInBounds_toArray, List.set_cons_zero, List.set_cons_succ])
  refine takeH 9 (oi := ⟨some 91, _, _, _, _, _⟩) (v := ?_) rfl (by kernel_rfl) (by kernel_rfl) (by kernel_rfl) (fun c _ w h => HP c _ _ _ w h) (Or.inl ⟨by rfl, ?_⟩) Sd6 ?_
  rotate_left
  · (intro W hW; (try dsimp only at hW); go_simp; try with_reducible rfl)
  try (conv in (Act.put _ _ _) => simp only [Act.put, List.setIfInBounds_toArray, List.set_cons_zero, List.set_cons_succ])
  refine takeH 10 (oi := ⟨some 92, _, _, _, _, _⟩) (v := ?_) rfl (by kernel_rfl) (by kernel_rfl) (by kernel_rfl) (fun c _ w h => HP c _ _ _ w h) (Or.inl ⟨by rfl, ?_⟩) Sd6 ?_
  rotate_left
  · (intro W hW; (try dsimp only at hW); go_simp; try with_reducible rfl)
  try (conv in (Act.put _ _ _) => simp only [Act.put, List.setIfInBounds_toArray, List.set_cons_zero, List.set_cons_succ])
  refine takeH 11 (oi := ⟨some 93, _, _, _, _, _⟩) (v := ?_) rfl (by kernel_rfl) (by kernel_rfl) (by kernel_rfl) (fun c _ w h => HP c _ _ _ w h) (Or.inl ⟨by rfl, ?_⟩) Sd6 ?_
  rotate_left
  · (intro W hW; (try dsimp only at hW); go_simp; try with_reducible rfl)
  try (conv in (Act.put _ _ _) => simp only [Act.put, List.setIfInBounds_toArray, List.set_cons_zero, List.set_cons_succ])
  refine takeH 13 (oi := ⟨some 95, _, _, _, _, _⟩) (v := ?_) rfl (by kernel_rfl) (by kernel_rfl) (by kernel_rfl) (fun c _ w h => HP c _ _ _ w h) (Or.inl ⟨by rfl, ?_⟩) Sd6 ?_
  rotate_left
  · (intro W hW; (try dsimp only at hW); go_simp; try with_reducible rfl)
  try (conv in (Act.put _ _ _) => simp only [Act.put, List.setIfInBounds_toArray, List.set_cons_zero, List.set_cons_succ])
  refine one (i := 12) (by kernel_rfl) ?_
  refine wpOp_wanted rfl (by rfl) fun K hK => ?_
  go_simp
  with_reducible refine (HF1.out _ Dd6.out).mono ?_
  rintro e wd14 ⟨rfl, hb⟩
  have Dd14 := Lib.hid (Dd6.out.below hb)
  clear hb
  have Sd14 : (fun W : World => Blk W (wb) 57 [.int .i64 g1, .int .i64 g2, .string g3] ∧ Blk W (ob) 110 [ocv, .int .i64 oa, .int .i64 obb, .string os, .int .i64 v1, .int .i64 v2, .string v3] ∧ True) wd14 := ⟨Dd14.out.blk (c := (wb, 57, [.int .i64 g1, .int .i64 g2, .string g3])) (by simp), Dd14.out.blk (c := (ob, 110, [ocv, .int .i64 oa, .int .i64 obb, .string os, .int .i64 v1, .int .i64 v2, .string v3])) (by simp), trivial⟩
  refine hK _ _ ⟨Sd14, ?_⟩
  clear hK K
  try (conv in (Act.put _ _ _) => simp only [Act.put, List.setIfInBounds_toArray, List.set_cons_zero, List.set_cons_succ])
  refine takeH 14 (oi := ⟨some 96, _, _, _, _, _⟩) (v := ?_) rfl (by kernel_rfl) (by kernel_rfl) (by kernel_rfl) (fun c _ w h => HP c _ _ _ w h) (Or.inl ⟨by rfl, ?_⟩) Sd14 ?_
  rotate_left
  · (intro W hW; (try dsimp only at hW); go_simp; try with_reducible rfl)
  try (conv in (Act.put _ _ _) => simp only [Act.put, List.setIfInBounds_toArray, List.set_cons_zero, List.set_cons_succ])
  refine takeH 15 (oi := ⟨some 97, _, _, _, _, _⟩) (v := ?_) rfl (by kernel_rfl) (by kernel_rfl) (by kernel_rfl) (fun c _ w h => HP c _ _ _ w h) (Or.inl ⟨by rfl, ?_⟩) Sd14 ?_
  rotate_left
  · (intro W hW; (try dsimp only at hW); go_simp; try with_reducible rfl)
  try (conv in (Act.put _ _ _) => simp only [Act.put, List.setIfInBounds_toArray, List.set_cons_zero, List.set_cons_succ])
  refine takeH 16 (oi := ⟨some 98, _, _, _, _, _⟩) (v := ?_) rfl (by kernel_rfl) (by kernel_rfl) (by kernel_rfl) (fun c _ w h => HP c _ _ _ w h) (Or.inl ⟨by rfl, ?_⟩) Sd14 ?_
  rotate_left
  · (intro W hW; (try dsimp only at hW); go_simp; try with_reducible rfl)
  try (conv in (Act.put _ _ _) => simp only [Act.put, List.setIfInBounds_toArray, List.set_cons_zero, List.set_cons_succ])
  refine takeH 17 (oi := ⟨some 99, _, _, _, _, _⟩) (v := ?_) rfl (by kernel_rfl) (by kernel_rfl) (by kernel_rfl) (fun c _ w h => HP c _ _ _ w h) (Or.inl ⟨by rfl, ?_⟩) Sd14 ?_
  rotate_left
  · (intro W hW; (try dsimp only at hW); go_simp; try with_reducible rfl)
  try (conv in (Act.put _ _ _) => simp only [Act.put, List.setIfInBounds_toArray, List.set_cons_zero, List.set_cons_succ])
  refine takeH 18 (oi := ⟨some 100, _, _, _, _, _⟩) (v := ?_) rfl (by kernel_rfl) (by kernel_rfl) (by kernel_rfl) (fun c _ w h => HP c _ _ _ w h) (Or.inl ⟨by rfl, ?_⟩) Sd14 ?_
  rotate_left
  · (intro W hW; (try dsimp only at hW); go_simp; try with_reducible rfl)
  try (conv in (Act.put _ _ _) => simp only [Act.put, List.setIfInBounds_toArray, List.set_cons_zero, List.set_cons_succ])
  refine takeH 19 (oi := ⟨some 101, _, _, _, _, _⟩) (v := ?_) rfl (by kernel_rfl) (by kernel_rfl) (by kernel_rfl) (fun c _ w h => HP c _ _ _ w h) (Or.inl ⟨by rfl, ?_⟩) Sd14 ?_
  rotate_left
  · (intro W hW; (try dsimp only at hW); go_simp; try with_reducible rfl)
  try (conv in (Act.put _ _ _) => simp only [Act.put, List.setIfInBounds_toArray, List.set_cons_zero, List.set_cons_succ])
  refine takeH 21 (oi := ⟨some 103, _, _, _, _, _⟩) (v := ?_) rfl (by kernel_rfl) (by kernel_rfl) (by kernel_rfl) (fun c _ w h => HP c _ _ _ w h) (Or.inl ⟨by rfl, ?_⟩) Sd14 ?_
  rotate_left
  · (intro W hW; (try dsimp only at hW); go_simp; try with_reducible rfl)
  try (conv in (Act.put _ _ _) => simp only [Act.put, List.setIfInBounds_toArray, List.set_cons_zero, List.set_cons_succ])
  refine one (i := 20) (by kernel_rfl) ?_
  refine wpOp_wanted rfl (by rfl) fun K hK => ?_
  go_simp
  with_reducible refine (HF2.out _ Dd14.out).mono ?_
  rintro e wd22 ⟨rfl, hb⟩
  have Dd22 := Lib.hid (Dd14.out.below hb)
  clear hb
  have Sd22 : (fun W : World => Blk W (wb) 57 [.int .i64 g1, .int .i64 g2, .string g3] ∧ Blk W (ob) 110 [ocv, .int .i64 oa, .int .i64 obb, .string os, .int .i64 v1, .int .i64 v2, .string v3] ∧ True) wd22 := ⟨Dd22.out.blk (c := (wb, 57, [.int .i64 g1, .int .i64 g2, .string g3])) (by simp), Dd22.out.blk (c := (ob, 110, [ocv, .int .i64 oa, .int .i64 obb, .string os, .int .i64 v1, .int .i64 v2, .string v3])) (by simp), trivial⟩
  refine hK _ _ ⟨Sd22, ?_⟩
  clear hK K
  try (conv in (Act.put _ _ _) => simp only [Act.put, List.setIfInBounds_toArray, List.set_cons_zero, List.set_cons_succ])
  refine takeH 22 (oi := ⟨some 104, _, _, _, _, _⟩) (v := ?_) rfl (by kernel_rfl) (by kernel_rfl) (by kernel_rfl) (fun c _ w h => HP c _ _ _ w h) (Or.inl ⟨by rfl, ?_⟩) Sd22 ?_
  rotate_left
  · (intro W hW; (try dsimp only at hW); go_simp; try with_reducible rfl)
  try (conv in (Act.put _ _ _) => simp only [Act.put, List.setIfInBounds_toArray, List.set_cons_zero, List.set_cons_succ])
  refine takeH 23 (oi := ⟨some 105, _, _, _, _, _⟩) (v := ?_) rfl (by kernel_rfl) (by kernel_rfl) (by kernel_rfl) (fun c _ w h => HP c _ _ _ w h) (Or.inl ⟨by rfl, ?_⟩) Sd22 ?_
  rotate_left
  · (intro W hW; (try dsimp only at hW); go_simp; try with_reducible rfl)
  try (conv in (Act.put _ _ _) => simp only [Act.put, List.setIfInBounds_toArray, List.set_cons_zero, List.set_cons_succ])
  refine takeH 24 (oi := ⟨some 106, _, _, _, _, _⟩) (v := ?_) rfl (by kernel_rfl) (by kernel_rfl) (by kernel_rfl) (fun c _ w h => HP c _ _ _ w h) (Or.inl ⟨by rfl, ?_⟩) Sd22 ?_
  rotate_left
  · (intro W hW; (try dsimp only at hW); go_simp; try with_reducible rfl)
  try (conv in (Act.put _ _ _) => simp only [Act.put, List.setIfInBounds_toArray, List.set_cons_zero, List.set_cons_succ])
  refine takeH 25 (oi := ⟨some 107, _, _, _, _, _⟩) (v := ?_) rfl (by kernel_rfl) (by kernel_rfl) (by kernel_rfl) (fun c _ w h => HP c _ _ _ w h) (Or.inl ⟨by rfl, ?_⟩) Sd22 ?_
  rotate_left
  · (intro W hW; (try dsimp only at hW); go_simp; try with_reducible rfl)
  try (conv in (Act.put _ _ _) => simp only [Act.put, List.setIfInBounds_toArray, List.set_cons_zero, List.set_cons_succ])
  refine takeH 26 (oi := ⟨some 108, _, _, _, _, _⟩) (v := ?_) rfl (by kernel_rfl) (by kernel_rfl) (by kernel_rfl) (fun c _ w h => HP c _ _ _ w h) (Or.inl ⟨by rfl, ?_⟩) Sd22 ?_
  rotate_left
  · (intro W hW; (try dsimp only at hW); go_simp; try with_reducible rfl)
  try (conv in (Act.put _ _ _) => simp only [Act.put, List.setIfInBounds_toArray, List.set_cons_zero, List.set_cons_succ])
  refine takeH 27 (oi := ⟨some 109, _, _, _, _, _⟩) (v := ?_) rfl (by kernel_rfl) (by kernel_rfl) (by kernel_rfl) (fun c _ w h => HP c _ _ _ w h) (Or.inl ⟨by rfl, ?_⟩) Sd22 ?_
  rotate_left
  · (intro W hW; (try dsimp only at hW); go_simp; try with_reducible rfl)
  try (conv in (Act.put _ _ _) => simp only [Act.put, List.setIfInBounds_toArray, List.set_cons_zero, List.set_cons_succ])
  refine takeH 28 (oi := ⟨some 110, _, _, _, _, _⟩) (v := ?_) rfl (by kernel_rfl) (by kernel_rfl) (by kernel_rfl) (fun c _ w h => HP c _ _ _ w h) (Or.inl ⟨by rfl, ?_⟩) Sd22 ?_
  rotate_left
  · (intro W hW; (try dsimp only at hW); go_simp; try with_reducible rfl)
  try (conv in (Act.put _ _ _) => simp only [Act.put, List.setIfInBounds_toArray, List.set_cons_zero, List.set_cons_succ])
  refine takeH 29 (oi := ⟨some 111, _, _, _, _, _⟩) (v := ?_) rfl (by kernel_rfl) (by kernel_rfl) (by kernel_rfl) (fun c _ w h => HP c _ _ _ w h) (Or.inl ⟨by rfl, ?_⟩) Sd22 ?_
  rotate_left
  · (intro W hW; (try dsimp only at hW); go_simp; try with_reducible rfl)
  try (conv in (Act.put _ _ _) => simp only [Act.put, List.setIfInBounds_toArray, List.set_cons_zero, List.set_cons_succ])
  refine takeH 31 (oi := ⟨some 113, _, _, _, _, _⟩) (v := ?_) rfl (by kernel_rfl) (by kernel_rfl) (by kernel_rfl) (fun c _ w h => HP c _ _ _ w h) (Or.inl ⟨by rfl, ?_⟩) Sd22 ?_
  rotate_left
  · (intro W hW; (try dsimp only at hW); go_simp; try with_reducible rfl)
  try (conv in (Act.put _ _ _) => simp only [Act.put, List.setIfInBounds_toArray, List.set_cons_zero, List.set_cons_succ])
  refine one (i := 30) (by kernel_rfl) ?_
  refine wpOp_wanted rfl (by rfl) fun K hK => ?_
  go_simp
  with_reducible refine (HF3.out _ Dd22.out).mono ?_
  rintro e wd32 ⟨rfl, hb⟩
  have Dd32 := Lib.hid (Dd22.out.below hb)
  clear hb
  have Sd32 : (fun W : World => Blk W (wb) 57 [.int .i64 g1, .int .i64 g2, .string g3] ∧ Blk W (ob) 110 [ocv, .int .i64 oa, .int .i64 obb, .string os, .int .i64 v1, .int .i64 v2, .string v3] ∧ True) wd32 := ⟨Dd32.out.blk (c := (wb, 57, [.int .i64 g1, .int .i64 g2, .string g3])) (by simp), Dd32.out.blk (c := (ob, 110, [ocv, .int .i64 oa, .int .i64 obb, .string os, .int .i64 v1, .int .i64 v2, .string v3])) (by simp), trivial⟩
  refine hK _ _ ⟨Sd32, ?_⟩
  clear hK K
  try (conv in (Act.put _ _ _) => simp only [Act.put, List.setIfInBounds_toArray, List.set_cons_zero, List.set_cons_succ])
  refine takeH 32 (oi := ⟨some 114, _, _, _, _, _⟩) (v := ?_) rfl (by kernel_rfl) (by kernel_rfl) (by kernel_rfl) (fun c _ w h => HP c _ _ _ w h) (Or.inl ⟨by rfl, ?_⟩) Sd32 ?_
  rotate_left
  · (intro W hW; (try dsimp only at hW); go_simp; try with_reducible rfl)
  try (conv in (Act.put _ _ _) => simp only [Act.put, List.setIfInBounds_toArray, List.set_cons_zero, List.set_cons_succ])
  refine takeH 33 (oi := ⟨some 115, _, _, _, _, _⟩) (v := ?_) rfl (by kernel_rfl) (by kernel_rfl) (by kernel_rfl) (fun c _ w h => HP c _ _ _ w h) (Or.inl ⟨by rfl, ?_⟩) Sd32 ?_
  rotate_left
  · (intro W hW; (try dsimp only at hW); go_simp; try with_reducible rfl)
  try (conv in (Act.put _ _ _) => simp only [Act.put, List.setIfInBounds_toArray, List.set_cons_zero, List.set_cons_succ])
  refine takeH 34 (oi := ⟨some 116, _, _, _, _, _⟩) (v := ?_) rfl (by kernel_rfl) (by kernel_rfl) (by kernel_rfl) (fun c _ w h => HP c _ _ _ w h) (Or.inl ⟨by rfl, ?_⟩) Sd32 ?_
  rotate_left
  · (intro W hW; (try dsimp only at hW); go_simp; try with_reducible rfl)
  try (conv in (Act.put _ _ _) => simp only [Act.put, List.setIfInBounds_toArray, List.set_cons_zero, List.set_cons_succ])
  refine takeH 35 (oi := ⟨some 117, _, _, _, _, _⟩) (v := ?_) rfl (by kernel_rfl) (by kernel_rfl) (by kernel_rfl) (fun c _ w h => HP c _ _ _ w h) (Or.inl ⟨by rfl, ?_⟩) Sd32 ?_
  rotate_left
  · (intro W hW; (try dsimp only at hW); go_simp; try with_reducible rfl)
  try (conv in (Act.put _ _ _) => simp only [Act.put, List.setIfInBounds_toArray, List.set_cons_zero, List.set_cons_succ])
  refine takeH 36 (oi := ⟨some 118, _, _, _, _, _⟩) (v := ?_) rfl (by kernel_rfl) (by kernel_rfl) (by kernel_rfl) (fun c _ w h => HP c _ _ _ w h) (Or.inl ⟨by rfl, ?_⟩) Sd32 ?_
  rotate_left
  · (intro W hW; (try dsimp only at hW); go_simp; try with_reducible rfl)
  try (conv in (Act.put _ _ _) => simp only [Act.put, List.setIfInBounds_toArray, List.set_cons_zero, List.set_cons_succ])
  refine takeH 37 (oi := ⟨some 119, _, _, _, _, _⟩) (v := ?_) rfl (by kernel_rfl) (by kernel_rfl) (by kernel_rfl) (fun c _ w h => HP c _ _ _ w h) (Or.inl ⟨by rfl, ?_⟩) Sd32 ?_
  rotate_left
  · (intro W hW; (try dsimp only at hW); go_simp; try with_reducible rfl)
  try (conv in (Act.put _ _ _) => simp only [Act.put, List.setIfInBounds_toArray, List.set_cons_zero, List.set_cons_succ])
  refine takeH 38 (oi := ⟨some 120, _, _, _, _, _⟩) (v := ?_) rfl (by kernel_rfl) (by kernel_rfl) (by kernel_rfl) (fun c _ w h => HP c _ _ _ w h) (Or.inl ⟨by rfl, ?_⟩) Sd32 ?_
  rotate_left
  · (intro W hW; (try dsimp only at hW); go_simp; try with_reducible rfl)
  try (conv in (Act.put _ _ _) => simp only [Act.put, List.setIfInBounds_toArray, List.set_cons_zero, List.set_cons_succ])
  refine takeH 40 (oi := ⟨some 122, _, _, _, _, _⟩) (v := ?_) rfl (by kernel_rfl) (by kernel_rfl) (by kernel_rfl) (fun c _ w h => HP c _ _ _ w h) (Or.inl ⟨by rfl, ?_⟩) Sd32 ?_
  rotate_left
  · (intro W hW; (try dsimp only at hW); go_simp; try with_reducible rfl)
  try (conv in (Act.put _ _ _) => simp only [Act.put, List.setIfInBounds_toArray, List.set_cons_zero, List.set_cons_succ])
  refine one (i := 39) (by kernel_rfl) ?_
  refine wpOp_wanted rfl (by rfl) fun K hK => ?_
  go_simp
  with_reducible refine (HF4.out _ Dd32.out).mono ?_
  rintro e wd41 ⟨rfl, hb⟩
  have Dd41 := Lib.hid (Dd32.out.below hb)
  clear hb
  have Sd41 : (fun W : World => Blk W (wb) 57 [.int .i64 g1, .int .i64 g2, .string g3] ∧ Blk W (ob) 110 [ocv, .int .i64 oa, .int .i64 obb, .string os, .int .i64 v1, .int .i64 v2, .string v3] ∧ True) wd41 := ⟨Dd41.out.blk (c := (wb, 57, [.int .i64 g1, .int .i64 g2, .string g3])) (by simp), Dd41.out.blk (c := (ob, 110, [ocv, .int .i64 oa, .int .i64 obb, .string os, .int .i64 v1, .int .i64 v2, .string v3])) (by simp), trivial⟩
  refine hK _ _ ⟨Sd41, ?_⟩
  clear hK K
  try (conv in (Act.put _ _ _) => simp only [Act.put, List.setIfInBounds_toArray, List.set_cons_zero, List.set_cons_succ])
  refine takeH 41 (oi := ⟨some 123, _, _, _, _, _⟩) (v := ?_) rfl (by kernel_rfl) (by kernel_rfl) (by kernel_rfl) (fun c _ w h => HP c _ _ _ w h) (Or.inl ⟨by rfl, ?_⟩) Sd41 ?_
  rotate_left
  · (intro W hW; (try dsimp only at hW); go_simp; try with_reducible rfl)
  try (conv in (Act.put _ _ _) => simp only [Act.put, List.setIfInBounds_toArray, List.set_cons_zero, List.set_cons_succ])
  refine takeH 42 (oi := ⟨some 124, _, _, _, _, _⟩) (v := ?_) rfl (by kernel_rfl) (by kernel_rfl) (by kernel_rfl) (fun c _ w h => HP c _ _ _ w h) (Or.inl ⟨by rfl, ?_⟩) Sd41 ?_
  rotate_left
  · (intro W hW; (try dsimp only at hW); go_simp; try with_reducible rfl)
  try (conv in (Act.put _ _ _) => simp only [Act.put, List.setIfInBounds_toArray, List.set_cons_zero, List.set_cons_succ])
  refine wpAnyH_done (by kernel_rfl) ?_ _
  clear wxd0 wxd1 wxd2 oyd0 oyd1 oyd2 oyd3 oyd4 oyd5 oyd6
  exact HQ _ Dd41 _ _ _ _ _ _ _ _ _ _ _ _ _ _ _ _ _ _ _ _ _ _ _ _ _ _ _ _ _ _ _ _ _ _ _ _ _ _ _ _ _ _
set_option maxHeartbeats 32000000 in
set_option maxRecDepth 20000 in
theorem mbooks_walk (deep : Int) (noted : Bool) (lv : Value) (l : List OpM) (w : World) (hl : RdM w lv l) : Calls Try.prog 15 #[.int .i64 deep, .bool noted, lv] w fun e w' => e = .returned (.bool true) ∧ Below w.heap.size w w' := by
  have HI := Lib.hid (fun (n : Int) (W : World) => ofInt_calls n W)
  have HS := Lib.hid (fun (s : ByteArray) (W : World) => ofStr_calls s W)
  have HAL := Lib.hid (fun (W : World) => malive_calls W)
  have HGR := Lib.hid (fun (W : World) (h : RdM W lv l) => mgreat_calls lv l W h)
  have HNM := Lib.hid (fun (W : World) => show Calls Try.prog 70 #[] W fun e w' => ∃ g, e = .returned (.slice (some ⟨g, 0, none⟩) 20 20) ∧ NewStrs W w' (.slice (some ⟨g, 0, none⟩) 20 20) metaNames from (mnames_calls W).mono (fun e w' h => by obtain ⟨v, h1, h2, rfl⟩ := h; exact ⟨_, h1, h2⟩))
  obtain ⟨dp, hdp⟩ : ∃ d, d = min (max deep 0) 64 := ⟨_, rfl⟩
  have HNT := Lib.hid (fun (W : World) (v : Value) (ns : List ByteArray) (hv : RdS W v ns) (hz : ∀ s ∈ ns, s.size ≤ maxLen) (h : Below w.heap.size w W) => show Calls Try.prog 61 #[.int .i64 deep, .int .i64 64, v] W fun e w' => ∃ sb, e = .returned (.pointer (some ⟨sb, 0, none⟩)) ∧ TL w w' (fun _ => False) (some ⟨sb, 0, none⟩) dp 64 T0 0 [] [] ∧ Below W.heap.size W w' from by
    rw [hdp]
    exact TL.newTree deep 64 v ns w W h hv hz (fun b hb => hb.elim))
  clear hdp
  have HL := Lib.hid hl
  obtain ⟨a1, c1, rfl, q1, q2, q3, _⟩ := hl
  obtain ⟨n1, hn1⟩ : ∃ n, n = l.length := ⟨_, rfl⟩
  have E1 := Lib.hid hn1
  rw [← hn1] at HL HGR q1 q3 ⊢
  have hc1 : c1 ≤ 9223372036854775807 := q2
  clear hn1 q2
  go_enter Try.func15, Try.ntmps15
  go_wp2_with fail
  refine (HAL.out _).mono ?_
  rintro e w1 ⟨rfl, hb⟩
  have HB1 := Lib.hid hb
  have HGG := Lib.hid (HGR.out _ (HL.out.below hb (Nat.le_refl _)))
  clear hb
  go_wp2_with fail
  refine HGG.out.mono ?_
  rintro e w2 ⟨gr, rfl, hgr, hb⟩
  have HB2 := Lib.hid (HB1.out.trans (hb.mono HB1.out.size))
  have HGN := Lib.hid hgr
  clear hb hgr HGG HB1
  cases gr with
  | true =>
    go_wp2
    go_ret
    exact ⟨rfl, HB2.out⟩
  | false =>
    have hn3 : n1 ≤ 300 := HGN.out rfl
    have HN3 := Lib.hid hn3
    have HC : Hid (∀ j x, l[j]? = some x → (x.s.size ≤ 140737488355328 ∧ x.v.s.size ≤ 140737488355328) ∧ ∃ b off, a1 = some ⟨b, off, none⟩ ∧ ∀ i u, x.cells[i]? = some u → w.cell? ⟨b, off + j * 7 + i, none⟩ = some u) := Lib.hid (by
      obtain ⟨_, _, e, _, _, _, h⟩ := HL.out
      cases e
      exact h)
    clear HGN
    have HNF := Lib.hid (HNT.out w2 (.slice none 0 0) [] (RdS.none _) (fun s hs => by cases hs) HB2.out)
    cases noted
    all_goals
      go_upto_region 9 with (first
        | (go_at_call 70; (with_reducible refine (HNM.out _).mono ?_); rintro e w3 ⟨g, rfl, ⟨hv, _, hb⟩⟩; have HNN := Lib.hid (HNT.out w3 _ metaNames (RdS.of_row hv) metaNames_size (HB2.out.trans (hb.mono HB2.out.size))); clear hv hb)
        | (go_at_call 61; (with_reducible refine HNN.out.mono ?_); rintro e w4 ⟨sb, rfl, h1, _⟩; have D4 := Lib.hid h1; clear h1)
        | (go_at_call 61; (with_reducible refine HNF.out.mono ?_); rintro e w4 ⟨sb, rfl, h1, _⟩; have D4 := Lib.hid h1; clear h1))
      have HBK := Lib.hid D4.out.book
      go_upto_region 11 with (go_at_call 75; (with_reducible refine HBK.out.mono ?_); rintro e w5 ⟨bb, rfl, h1, hbb⟩; have D5 := Lib.hid (h1.alloc [.pointer none, .pointer none, .pointer none, .pointer none] 105); have HBB := Lib.hid (Nat.le_trans D4.out.bel.size hbb); have HNE := Lib.hid (show bb < w5.heap.size from (h1.blk List.mem_cons_self).lt); have HAB := Lib.hid h1.bel.size; clear h1 hbb)
      go_upto_region 12 with fail
      obtain ⟨ab, hab⟩ : ∃ b, b = w5.heap.size := ⟨_, rfl⟩
      obtain ⟨w6, hw6⟩ : ∃ x, x = w5.alloc (.cells #[.pointer none, .pointer none, .pointer none, .pointer none] 105) := ⟨_, rfl⟩
      have D6 : Hid (TL w w6 (fun _ => False) (some ⟨sb, 0, none⟩) dp 64 T0 0 [] [(ab, 105, [.pointer none, .pointer none, .pointer none, .pointer none]), (bb, 207, [.pointer (some ⟨sb, 0, none⟩), .int .u64 0])]) := Lib.hid (by rw [hw6, hab]; exact D5.out)
      have HAA : Hid (w.heap.size ≤ ab ∧ bb ≠ ab) := Lib.hid (by have h1 := HAB.out; have h2 := HNE.out; omega)
      rw [← hab, ← hw6]
      clear hab hw6 D5 D4 HAB HNE HBK
      go_wp2
      go_loopw [12, 29] (fun _ ii wr => ∃ (j t0 t1 t2 t3 : Nat), j ≤ 4 ∧ ii = .int .i64 j ∧ Hid (TL w wr (fun _ => False) (some ⟨sb, 0, none⟩) dp 64 T0 0 ([newT t0, newT t1, newT t2, newT t3].take j) [(ab, 105, [ptrIf (decide (0 < j)) t0, ptrIf (decide (1 < j)) t1, ptrIf (decide (2 < j)) t2, ptrIf (decide (3 < j)) t3]), (bb, 207, [.pointer (some ⟨sb, 0, none⟩), .int .u64 0])])) (fun _ ii _ => 4 - (intOf ii).toNat)
      case atStart => exact ⟨0, 0, 0, 0, 0, by omega, rfl, D6⟩
      case round =>
        obtain ⟨j, t0, t1, t2, t3, hj, rfl, hre⟩ := hrel
        by_cases e0 : j = 0
        · subst e0
          clear hj
          have HD : Hid (TL w wr (fun _ => False) (some ⟨sb, 0, none⟩) dp 64 T0 0 [] [(ab, 105, [.pointer none, .pointer none, .pointer none, .pointer none]), (bb, 207, [.pointer (some ⟨sb, 0, none⟩), .int .u64 0])]) := hre
          clear hre
          have HTN := Lib.hid (HD.out.new rfl)
          go_upto_region 16 with (go_at_call 62; (with_reducible refine HTN.out.mono ?_); rintro e w7 ⟨tb, rfl, h1, _⟩; have D7 : Hid (TL w w7 (fun _ => False) (some ⟨sb, 0, none⟩) dp 64 T0 0 [newT tb] [(ab, 105, [.pointer none, .pointer none, .pointer none, .pointer none]), (bb, 207, [.pointer (some ⟨sb, 0, none⟩), .int .u64 0])]) := Lib.hid h1; clear h1; have hbk := D7.out.blk List.mem_cons_self; have c0 := hbk.cell 0 _ rfl; have f0 := hbk.frozen 0; clear hbk)
          have D8 : Hid (TL w (w7.setCell ⟨ab, 0, none⟩ (.pointer (some ⟨tb, 0, none⟩))) (fun _ => False) (some ⟨sb, 0, none⟩) dp 64 T0 0 [newT tb] [(ab, 105, [.pointer (some ⟨tb, 0, none⟩), .pointer none, .pointer none, .pointer none]), (bb, 207, [.pointer (some ⟨sb, 0, none⟩), .int .u64 0])]) := Lib.hid (D7.out.stored HAA.out.1 (fun c hc => by simp at hc; subst hc; exact HAA.out.2) 0 _)
          go_wp2
          go_roundw
          case rel => exact ⟨1, tb, t1, t2, t3, by omega, by first | rfl | go_num, D8⟩
          case measure => simp [intOf]
        by_cases e1 : j = 1
        · subst e1
          clear hj
          have HD : Hid (TL w wr (fun _ => False) (some ⟨sb, 0, none⟩) dp 64 T0 0 [newT t0] [(ab, 105, [.pointer (some ⟨t0, 0, none⟩), .pointer none, .pointer none, .pointer none]), (bb, 207, [.pointer (some ⟨sb, 0, none⟩), .int .u64 0])]) := hre
          clear hre
          have HTN := Lib.hid (HD.out.new rfl)
          go_upto_region 16 with (go_at_call 62; (with_reducible refine HTN.out.mono ?_); rintro e w7 ⟨tb, rfl, h1, _⟩; have D7 : Hid (TL w w7 (fun _ => False) (some ⟨sb, 0, none⟩) dp 64 T0 0 [newT t0, newT tb] [(ab, 105, [.pointer (some ⟨t0, 0, none⟩), .pointer none, .pointer none, .pointer none]), (bb, 207, [.pointer (some ⟨sb, 0, none⟩), .int .u64 0])]) := Lib.hid h1; clear h1; have hbk := D7.out.blk List.mem_cons_self; have c0 := hbk.cell 1 _ rfl; have f0 := hbk.frozen 1; clear hbk)
          have D8 : Hid (TL w (w7.setCell ⟨ab, 1, none⟩ (.pointer (some ⟨tb, 0, none⟩))) (fun _ => False) (some ⟨sb, 0, none⟩) dp 64 T0 0 [newT t0, newT tb] [(ab, 105, [.pointer (some ⟨t0, 0, none⟩), .pointer (some ⟨tb, 0, none⟩), .pointer none, .pointer none]), (bb, 207, [.pointer (some ⟨sb, 0, none⟩), .int .u64 0])]) := Lib.hid (D7.out.stored HAA.out.1 (fun c hc => by simp at hc; subst hc; exact HAA.out.2) 1 _)
          go_wp2
          go_roundw
          case rel => exact ⟨2, t0, tb, t2, t3, by omega, by first | rfl | go_num, D8⟩
          case measure => simp [intOf]
        by_cases e2 : j = 2
        · subst e2
          clear hj
          have HD : Hid (TL w wr (fun _ => False) (some ⟨sb, 0, none⟩) dp 64 T0 0 [newT t0, newT t1] [(ab, 105, [.pointer (some ⟨t0, 0, none⟩), .pointer (some ⟨t1, 0, none⟩), .pointer none, .pointer none]), (bb, 207, [.pointer (some ⟨sb, 0, none⟩), .int .u64 0])]) := hre
          clear hre
          have HTN := Lib.hid (HD.out.new rfl)
          go_upto_region 16 with (go_at_call 62; (with_reducible refine HTN.out.mono ?_); rintro e w7 ⟨tb, rfl, h1, _⟩; have D7 : Hid (TL w w7 (fun _ => False) (some ⟨sb, 0, none⟩) dp 64 T0 0 [newT t0, newT t1, newT tb] [(ab, 105, [.pointer (some ⟨t0, 0, none⟩), .pointer (some ⟨t1, 0, none⟩), .pointer none, .pointer none]), (bb, 207, [.pointer (some ⟨sb, 0, none⟩), .int .u64 0])]) := Lib.hid h1; clear h1; have hbk := D7.out.blk List.mem_cons_self; have c0 := hbk.cell 2 _ rfl; have f0 := hbk.frozen 2; clear hbk)
          have D8 : Hid (TL w (w7.setCell ⟨ab, 2, none⟩ (.pointer (some ⟨tb, 0, none⟩))) (fun _ => False) (some ⟨sb, 0, none⟩) dp 64 T0 0 [newT t0, newT t1, newT tb] [(ab, 105, [.pointer (some ⟨t0, 0, none⟩), .pointer (some ⟨t1, 0, none⟩), .pointer (some ⟨tb, 0, none⟩), .pointer none]), (bb, 207, [.pointer (some ⟨sb, 0, none⟩), .int .u64 0])]) := Lib.hid (D7.out.stored HAA.out.1 (fun c hc => by simp at hc; subst hc; exact HAA.out.2) 2 _)
          go_wp2
          go_roundw
          case rel => exact ⟨3, t0, t1, tb, t3, by omega, by first | rfl | go_num, D8⟩
          case measure => simp [intOf]
        by_cases e3 : j = 3
        · subst e3
          clear hj
          have HD : Hid (TL w wr (fun _ => False) (some ⟨sb, 0, none⟩) dp 64 T0 0 [newT t0, newT t1, newT t2] [(ab, 105, [.pointer (some ⟨t0, 0, none⟩), .pointer (some ⟨t1, 0, none⟩), .pointer (some ⟨t2, 0, none⟩), .pointer none]), (bb, 207, [.pointer (some ⟨sb, 0, none⟩), .int .u64 0])]) := hre
          clear hre
          have HTN := Lib.hid (HD.out.new rfl)
          go_upto_region 16 with (go_at_call 62; (with_reducible refine HTN.out.mono ?_); rintro e w7 ⟨tb, rfl, h1, _⟩; have D7 : Hid (TL w w7 (fun _ => False) (some ⟨sb, 0, none⟩) dp 64 T0 0 [newT t0, newT t1, newT t2, newT tb] [(ab, 105, [.pointer (some ⟨t0, 0, none⟩), .pointer (some ⟨t1, 0, none⟩), .pointer (some ⟨t2, 0, none⟩), .pointer none]), (bb, 207, [.pointer (some ⟨sb, 0, none⟩), .int .u64 0])]) := Lib.hid h1; clear h1; have hbk := D7.out.blk List.mem_cons_self; have c0 := hbk.cell 3 _ rfl; have f0 := hbk.frozen 3; clear hbk)
          have D8 : Hid (TL w (w7.setCell ⟨ab, 3, none⟩ (.pointer (some ⟨tb, 0, none⟩))) (fun _ => False) (some ⟨sb, 0, none⟩) dp 64 T0 0 [newT t0, newT t1, newT t2, newT tb] [(ab, 105, [.pointer (some ⟨t0, 0, none⟩), .pointer (some ⟨t1, 0, none⟩), .pointer (some ⟨t2, 0, none⟩), .pointer (some ⟨tb, 0, none⟩)]), (bb, 207, [.pointer (some ⟨sb, 0, none⟩), .int .u64 0])]) := Lib.hid (D7.out.stored HAA.out.1 (fun c hc => by simp at hc; subst hc; exact HAA.out.2) 3 _)
          go_wp2
          go_roundw
          case rel => exact ⟨4, t0, t1, t2, tb, by omega, by first | rfl | go_num, D8⟩
          case measure => simp [intOf]
        obtain rfl : j = 4 := by omega
        have D9 : Hid (TL w wr (fun _ => False) (some ⟨sb, 0, none⟩) dp 64 T0 0 [newT t0, newT t1, newT t2, newT t3] [(ab, 105, [.pointer (some ⟨t0, 0, none⟩), .pointer (some ⟨t1, 0, none⟩), .pointer (some ⟨t2, 0, none⟩), .pointer (some ⟨t3, 0, none⟩)]), (bb, 207, [.pointer (some ⟨sb, 0, none⟩), .int .u64 0])]) := hre
        clear hre
        have hf0 : Four [t0, t1, t2, t3] [newT t0, newT t1, newT t2, newT t3] := ⟨rfl, fun t ht => by
          simp only [List.mem_cons, List.not_mem_nil, or_false] at ht
          rcases ht with rfl | rfl | rfl | rfl <;> exact .inl rfl⟩
        have HF0 := Lib.hid hf0
        have HBA := Lib.hid (show bb < wr.heap.size ∧ ab < wr.heap.size from ⟨(D9.out.blk (c := (bb, 207, [.pointer (some ⟨sb, 0, none⟩), .int .u64 0])) (by simp)).lt, (D9.out.blk List.mem_cons_self).lt⟩)
        clear hf0 e0 e1 e2 e3 hj
        go_wp2
        go_loopw [14, 15, 16, 17, 39, 57, 63] (fun _ _ _ _ ii _ _ wr => Hid (∃ (k : Nat) (T : List Sh) (tabs : List T3) (ep : Int), k ≤ n1 ∧ ii = .int .i64 k ∧ 0 ≤ ep ∧ ep ≤ k ∧ Hid (Four [t0, t1, t2, t3] tabs) ∧ Hid (TL w wr (fun _ => False) (some ⟨sb, 0, none⟩) dp 64 T k tabs [(ab, 105, [.pointer (some ⟨t0, 0, none⟩), .pointer (some ⟨t1, 0, none⟩), .pointer (some ⟨t2, 0, none⟩), .pointer (some ⟨t3, 0, none⟩)]), (bb, 207, [.pointer (some ⟨sb, 0, none⟩), .int .u64 ep])]))) (fun _ _ _ _ ii _ _ _ => n1 - (intOf ii).toNat)
        case atStart => exact Lib.hid ⟨0, T0, _, 0, by omega, rfl, by omega, by omega, HF0, D9⟩
        case round =>
          obtain ⟨k, T, tabs, ep, hk, rfl, hep0, hep1, hfo, hre⟩ := hrel.out
          clear hrel
          by_cases hlt : k < n1
          · have hkl : k < l.length := by rw [← E1.out]; exact hlt
            obtain ⟨x0, hx0⟩ : ∃ x, l[k]? = some x := ⟨_, List.getElem?_eq_getElem hkl⟩
            obtain ⟨⟨hs1, hs2⟩, b, off, rfl, hcl⟩ := HC.out k x0 hx0
            have hc := fun i u hu => (hre.out.bel.cell (World.block_lt_of_cell? w _ (hcl i u hu))).trans (hcl i u hu)
            obtain ⟨oc, oa, obb, os, ⟨v1, v2, v3⟩⟩ := x0
            have u0 := hc 0 _ rfl
            have u1 := hc 1 _ rfl
            have u2 := hc 2 _ rfl
            have u3 := hc 3 _ rfl
            have u4 := hc 4 _ rfl
            have u5 := hc 5 _ rfl
            have u6 := hc 6 _ rfl
            rw [Nat.add_zero] at u0
            have HOS : Hid (os.size ≤ maxLen) := Lib.hid (Nat.le_trans hs1 (by decide))
            have HK1 : Hid (k ≤ 100000 ∧ k + 1 ≤ 100000) := Lib.hid (by have := HN3.out; omega)
            obtain ⟨x, hx4, hxa⟩ := mod4 oa
            obtain ⟨y, hy4, hyb⟩ := mod4 obb
            have hx0' : (0 : Int) ≤ (x : Int) := by omega
            have hx1' : (x : Int) < 4 := by omega
            have hy0' : (0 : Int) ≤ (y : Int) := by omega
            have hy1' : (y : Int) < 4 := by omega
            obtain ⟨px, hpx⟩ : ∃ p, [t0, t1, t2, t3][x]? = some p := ⟨_, List.getElem?_eq_getElem hx4⟩
            obtain ⟨py, hpy⟩ : ∃ p, [t0, t1, t2, t3][y]? = some p := ⟨_, List.getElem?_eq_getElem hy4⟩
            have HPX := Lib.hid hpx
            have HPY := Lib.hid hpy
            have D1 := Lib.hid (hre.out.alloc [.int .i64 oc, .int .i64 oa, .int .i64 obb, .string os, .int .i64 v1, .int .i64 v2, .string v3] 110)
            have HOB := Lib.hid (show w.heap.size ≤ wr.heap.size from hre.out.bel.size)
            have HOL := Lib.hid (show bb < wr.heap.size ∧ ab < wr.heap.size from ⟨(hre.out.blk (c := (bb, 207, [.pointer (some ⟨sb, 0, none⟩), .int .u64 ep])) (by simp)).lt, (hre.out.blk List.mem_cons_self).lt⟩)
            have HCX := Lib.hid (fun (W : World) (h : Blk W ab 105 [.pointer (some ⟨t0, 0, none⟩), .pointer (some ⟨t1, 0, none⟩), .pointer (some ⟨t2, 0, none⟩), .pointer (some ⟨t3, 0, none⟩)]) => show W.cell? ⟨ab, x, none⟩ = some (.pointer (some ⟨px, 0, none⟩)) ∧ W.cell? ⟨ab, y, none⟩ = some (.pointer (some ⟨py, 0, none⟩)) from ⟨h.cell x _ (by
              have e := congrArg (Option.map (fun p => Value.pointer (some ⟨p, 0, none⟩))) HPX.out
              rw [← List.getElem?_map] at e
              exact e), h.cell y _ (by
              have e := congrArg (Option.map (fun p => Value.pointer (some ⟨p, 0, none⟩))) HPY.out
              rw [← List.getElem?_map] at e
              exact e)⟩)
            clear hc hcl hx0 hkl hs1 hs2 hpx hpy
            go_upto_region 20 with fail
            clear u0 u1 u2 u3 u4 u5 u6
            obtain ⟨ob, hob⟩ : ∃ b, b = wr.heap.size := ⟨_, rfl⟩
            obtain ⟨w1, hw1⟩ : ∃ W, W = wr.alloc (.cells #[.int .i64 oc, .int .i64 oa, .int .i64 obb, .string os, .int .i64 v1, .int .i64 v2, .string v3] 110) := ⟨_, rfl⟩
            have D2 : Hid (TL w w1 (fun _ => False) (some ⟨sb, 0, none⟩) dp 64 T k tabs [(ob, 110, [.int .i64 oc, .int .i64 oa, .int .i64 obb, .string os, .int .i64 v1, .int .i64 v2, .string v3]), (ab, 105, [.pointer (some ⟨t0, 0, none⟩), .pointer (some ⟨t1, 0, none⟩), .pointer (some ⟨t2, 0, none⟩), .pointer (some ⟨t3, 0, none⟩)]), (bb, 207, [.pointer (some ⟨sb, 0, none⟩), .int .u64 ep])]) := Lib.hid (by rw [hw1, hob]; exact D1.out)
            have HOB : Hid (w.heap.size ≤ ob) := Lib.hid (by rw [hob]; exact HOB.out)
            have HOL : Hid (bb < ob ∧ ab < ob) := Lib.hid (by rw [hob]; exact HOL.out)
            rw [← hob, ← hw1]
            clear hob hw1 D1 hre
            have BLa : Below w1.heap.size w1 ({ w1 with drawn := w1.drawn + 1 } : World) := ⟨rfl, rfl, rfl, Nat.le_refl _, fun _ _ => rfl⟩
            have Da := Lib.hid (D2.out.below BLa)
            refine wp_region_held (S := fun W : World => Blk W (ob) 110 [.int .i64 oc, .int .i64 oa, .int .i64 obb, .string os, .int .i64 v1, .int .i64 v2, .string v3] ∧ (W.cell? ⟨ab, x, none⟩ = some (.pointer (some ⟨px, 0, none⟩))) ∧ (W.cell? ⟨ab, y, none⟩ = some (.pointer (some ⟨py, 0, none⟩))) ∧ True) (by kernel_rfl) ?_
            generalize ({ w1 with drawn := w1.drawn + 1 } : World) = wa at BLa Da ⊢
            have hSa : (fun W : World => Blk W (ob) 110 [.int .i64 oc, .int .i64 oa, .int .i64 obb, .string os, .int .i64 v1, .int .i64 v2, .string v3] ∧ (W.cell? ⟨ab, x, none⟩ = some (.pointer (some ⟨px, 0, none⟩))) ∧ (W.cell? ⟨ab, y, none⟩ = some (.pointer (some ⟨py, 0, none⟩))) ∧ True) wa := ⟨Da.out.blk (c := (ob, 110, [.int .i64 oc, .int .i64 oa, .int .i64 obb, .string os, .int .i64 v1, .int .i64 v2, .string v3])) (by simp), (HCX.out _ (Da.out.blk (c := (ab, 105, [.pointer (some ⟨t0, 0, none⟩), .pointer (some ⟨t1, 0, none⟩), .pointer (some ⟨t2, 0, none⟩), .pointer (some ⟨t3, 0, none⟩)])) (by simp))).1, (HCX.out _ (Da.out.blk (c := (ab, 105, [.pointer (some ⟨t0, 0, none⟩), .pointer (some ⟨t1, 0, none⟩), .pointer (some ⟨t2, 0, none⟩), .pointer (some ⟨t3, 0, none⟩)])) (by simp))).2, trivial⟩
            have opa0 : ∀ W : World, (Blk W (ob) 110 [.int .i64 oc, .int .i64 oa, .int .i64 obb, .string os, .int .i64 v1, .int .i64 v2, .string v3] ∧ (W.cell? ⟨ab, x, none⟩ = some (.pointer (some ⟨px, 0, none⟩))) ∧ (W.cell? ⟨ab, y, none⟩ = some (.pointer (some ⟨py, 0, none⟩))) ∧ True) → W.cell? ⟨ob, 0, none⟩ = some (.int .i64 oc) := fun W hW => hW.1.cell 0 _ rfl
            have opa1 : ∀ W : World, (Blk W (ob) 110 [.int .i64 oc, .int .i64 oa, .int .i64 obb, .string os, .int .i64 v1, .int .i64 v2, .string v3] ∧ (W.cell? ⟨ab, x, none⟩ = some (.pointer (some ⟨px, 0, none⟩))) ∧ (W.cell? ⟨ab, y, none⟩ = some (.pointer (some ⟨py, 0, none⟩))) ∧ True) → W.cell? ⟨ob, 1, none⟩ = some (.int .i64 oa) := fun W hW => hW.1.cell 1 _ rfl
            have opa2 : ∀ W : World, (Blk W (ob) 110 [.int .i64 oc, .int .i64 oa, .int .i64 obb, .string os, .int .i64 v1, .int .i64 v2, .string v3] ∧ (W.cell? ⟨ab, x, none⟩ = some (.pointer (some ⟨px, 0, none⟩))) ∧ (W.cell? ⟨ab, y, none⟩ = some (.pointer (some ⟨py, 0, none⟩))) ∧ True) → W.cell? ⟨ob, 2, none⟩ = some (.int .i64 obb) := fun W hW => hW.1.cell 2 _ rfl
            have opa3 : ∀ W : World, (Blk W (ob) 110 [.int .i64 oc, .int .i64 oa, .int .i64 obb, .string os, .int .i64 v1, .int .i64 v2, .string v3] ∧ (W.cell? ⟨ab, x, none⟩ = some (.pointer (some ⟨px, 0, none⟩))) ∧ (W.cell? ⟨ab, y, none⟩ = some (.pointer (some ⟨py, 0, none⟩))) ∧ True) → W.cell? ⟨ob, 3, none⟩ = some (.string os) := fun W hW => hW.1.cell 3 _ rfl
            have opa4 : ∀ W : World, (Blk W (ob) 110 [.int .i64 oc, .int .i64 oa, .int .i64 obb, .string os, .int .i64 v1, .int .i64 v2, .string v3] ∧ (W.cell? ⟨ab, x, none⟩ = some (.pointer (some ⟨px, 0, none⟩))) ∧ (W.cell? ⟨ab, y, none⟩ = some (.pointer (some ⟨py, 0, none⟩))) ∧ True) → W.cell? ⟨ob, 4, none⟩ = some (.int .i64 v1) := fun W hW => hW.1.cell 4 _ rfl
            have opa5 : ∀ W : World, (Blk W (ob) 110 [.int .i64 oc, .int .i64 oa, .int .i64 obb, .string os, .int .i64 v1, .int .i64 v2, .string v3] ∧ (W.cell? ⟨ab, x, none⟩ = some (.pointer (some ⟨px, 0, none⟩))) ∧ (W.cell? ⟨ab, y, none⟩ = some (.pointer (some ⟨py, 0, none⟩))) ∧ True) → W.cell? ⟨ob, 5, none⟩ = some (.int .i64 v2) := fun W hW => hW.1.cell 5 _ rfl
            have opa6 : ∀ W : World, (Blk W (ob) 110 [.int .i64 oc, .int .i64 oa, .int .i64 obb, .string os, .int .i64 v1, .int .i64 v2, .string v3] ∧ (W.cell? ⟨ab, x, none⟩ = some (.pointer (some ⟨px, 0, none⟩))) ∧ (W.cell? ⟨ab, y, none⟩ = some (.pointer (some ⟨py, 0, none⟩))) ∧ True) → W.cell? ⟨ob, 6, none⟩ = some (.string v3) := fun W hW => hW.1.cell 6 _ rfl
            have cxa : ∀ W : World, (Blk W (ob) 110 [.int .i64 oc, .int .i64 oa, .int .i64 obb, .string os, .int .i64 v1, .int .i64 v2, .string v3] ∧ (W.cell? ⟨ab, x, none⟩ = some (.pointer (some ⟨px, 0, none⟩))) ∧ (W.cell? ⟨ab, y, none⟩ = some (.pointer (some ⟨py, 0, none⟩))) ∧ True) → W.cell? ⟨ab, x, none⟩ = some (.pointer (some ⟨px, 0, none⟩)) := fun W hW => hW.2.1
            have cya : ∀ W : World, (Blk W (ob) 110 [.int .i64 oc, .int .i64 oa, .int .i64 obb, .string os, .int .i64 v1, .int .i64 v2, .string v3] ∧ (W.cell? ⟨ab, x, none⟩ = some (.pointer (some ⟨px, 0, none⟩))) ∧ (W.cell? ⟨ab, y, none⟩ = some (.pointer (some ⟨py, 0, none⟩))) ∧ True) → W.cell? ⟨ab, y, none⟩ = some (.pointer (some ⟨py, 0, none⟩)) := fun W hW => hW.2.2.1
            refine takeH 0 (oi := ⟨some 43, _, _, _, _, _⟩) (v := ?_) rfl (by kernel_rfl) (by kernel_rfl) (by kernel_rfl) (fun _ _ _ h => h) (Or.inl ⟨by rfl, ?_⟩) hSa ?_
            rotate_left
            · (intro W hW; (try dsimp only at hW); go_simp; try with_reducible rfl)
            try (conv in (Act.put _ _ _) => simp only [Act.put, List.setIfInBounds_toArray, List.set_cons_zero, List.set_cons_succ])
            refine takeH 1 (oi := ⟨some 44, _, _, _, _, _⟩) (v := ?_) rfl (by kernel_rfl) (by kernel_rfl) (by kernel_rfl) (fun _ _ _ h => h) (Or.inl ⟨by rfl, ?_⟩) hSa ?_
            rotate_left
            · (intro W hW; (try dsimp only at hW); go_simp; try with_reducible rfl)
            try (conv in (Act.put _ _ _) => simp only [Act.put, List.setIfInBounds_toArray, List.set_cons_zero, List.set_cons_succ])
            refine takeH 2 (oi := ⟨some 45, _, _, _, _, _⟩) (v := ?_) rfl (by kernel_rfl) (by kernel_rfl) (by kernel_rfl) (fun _ _ _ h => h) (Or.inl ⟨by rfl, ?_⟩) hSa ?_
            rotate_left
            · (intro W hW; (try dsimp only at hW); go_simp; try with_reducible rfl)
            try (conv in (Act.put _ _ _) => simp only [Act.put, List.setIfInBounds_toArray, List.set_cons_zero, List.set_cons_succ])
            refine takeH 3 (oi := ⟨some 46, _, _, _, _, _⟩) (v := ?_) rfl (by kernel_rfl) (by kernel_rfl) (by kernel_rfl) (fun _ _ _ h => h) (Or.inl ⟨by rfl, ?_⟩) hSa ?_
            rotate_left
            · (intro W hW; (try dsimp only at hW); go_simp; try with_reducible rfl)
            try (conv in (Act.put _ _ _) => simp only [Act.put, List.setIfInBounds_toArray, List.set_cons_zero, List.set_cons_succ])
            refine takeH 4 (oi := ⟨some 47, _, _, _, _, _⟩) (v := ?_) rfl (by kernel_rfl) (by kernel_rfl) (by kernel_rfl) (fun _ _ _ h => h) (Or.inl ⟨by rfl, ?_⟩) hSa ?_
            rotate_left
            · (intro W hW; (try dsimp only at hW); go_simp; try with_reducible rfl)
            try (conv in (Act.put _ _ _) => simp only [Act.put, List.setIfInBounds_toArray, List.set_cons_zero, List.set_cons_succ])
            refine takeH 5 (oi := ⟨some 48, _, _, _, _, _⟩) (v := ?_) rfl (by kernel_rfl) (by kernel_rfl) (by kernel_rfl) (fun _ _ _ h => h) (Or.inl ⟨by rfl, ?_⟩) hSa ?_
            rotate_left
            · (intro W hW; (try dsimp only at hW); go_simp; try with_reducible rfl)
            try (conv in (Act.put _ _ _) => simp only [Act.put, List.setIfInBounds_toArray, List.set_cons_zero, List.set_cons_succ])
            refine takeH 6 (oi := ⟨some 49, _, _, _, _, _⟩) (v := ?_) rfl (by kernel_rfl) (by kernel_rfl) (by kernel_rfl) (fun _ _ _ h => h) (Or.inl ⟨by rfl, ?_⟩) hSa ?_
            rotate_left
            · (intro W hW; (try dsimp only at hW); go_simp; try with_reducible rfl)
            try (conv in (Act.put _ _ _) => simp only [Act.put, List.setIfInBounds_toArray, List.set_cons_zero, List.set_cons_succ])
            refine takeH 7 (oi := ⟨some 50, _, _, _, _, _⟩) (v := ?_) rfl (by kernel_rfl) (by kernel_rfl) (by kernel_rfl) (fun _ _ _ h => h) (Or.inl ⟨by rfl, ?_⟩) hSa ?_
            rotate_left
            · (intro W hW; (try dsimp only at hW); go_simp; try with_reducible rfl)
            try (conv in (Act.put _ _ _) => simp only [Act.put, List.setIfInBounds_toArray, List.set_cons_zero, List.set_cons_succ])
            refine takeH 8 (oi := ⟨some 51, _, _, _, _, _⟩) (v := ?_) rfl (by kernel_rfl) (by kernel_rfl) (by kernel_rfl) (fun _ _ _ h => h) (Or.inl ⟨by rfl, ?_⟩) hSa ?_
            rotate_left
            · (intro W hW; (try dsimp only at hW); go_simp; try with_reducible rfl)
            try (conv in (Act.put _ _ _) => simp only [Act.put, List.setIfInBounds_toArray, List.set_cons_zero, List.set_cons_succ])
            refine takeH 9 (oi := ⟨some 52, _, _, _, _, _⟩) (v := ?_) rfl (by kernel_rfl) (by kernel_rfl) (by kernel_rfl) (fun _ _ _ h => h) (Or.inl ⟨by rfl, ?_⟩) hSa ?_
            rotate_left
            · (intro W hW; (try dsimp only at hW); go_simp; try with_reducible rfl)
            try (conv in (Act.put _ _ _) => simp only [Act.put, List.setIfInBounds_toArray, List.set_cons_zero, List.set_cons_succ])
            refine takeH 10 (oi := ⟨some 53, _, _, _, _, _⟩) (v := ?_) rfl (by kernel_rfl) (by kernel_rfl) (by kernel_rfl) (fun _ _ _ h => h) (Or.inl ⟨by rfl, ?_⟩) hSa ?_
            rotate_left
            · (intro W hW; (try dsimp only at hW); go_simp; try with_reducible rfl)
            try (conv in (Act.put _ _ _) => simp only [Act.put, List.setIfInBounds_toArray, List.set_cons_zero, List.set_cons_succ])
            refine takeH 11 (oi := ⟨some 54, _, _, _, _, _⟩) (v := ?_) rfl (by kernel_rfl) (by kernel_rfl) (by kernel_rfl) (fun _ _ _ h => h) (Or.inl ⟨by rfl, ?_⟩) hSa ?_
            rotate_left
            · (intro W hW; (try dsimp only at hW); go_simp; try with_reducible rfl)
            try (conv in (Act.put _ _ _) => simp only [Act.put, List.setIfInBounds_toArray, List.set_cons_zero, List.set_cons_succ])
            refine takeH 12 (oi := ⟨some 15, _, _, _, _, _⟩) (v := ?_) rfl (by kernel_rfl) (by kernel_rfl) (by kernel_rfl) (fun _ _ _ h => h) (Or.inl ⟨by rfl, ?_⟩) hSa ?_
            rotate_left
            · (intro W hW; (try dsimp only at hW); go_simp; try with_reducible rfl)
            try (conv in (Act.put _ _ _) => simp only [Act.put, List.setIfInBounds_toArray, List.set_cons_zero, List.set_cons_succ])
            refine takeH 13 (oi := ⟨some 16, _, _, _, _, _⟩) (v := ?_) rfl (by kernel_rfl) (by kernel_rfl) (by kernel_rfl) (fun _ _ _ h => h) (Or.inl ⟨by rfl, ?_⟩) hSa ?_
            rotate_left
            · (intro W hW; (try dsimp only at hW); go_simp; try with_reducible rfl)
            try (conv in (Act.put _ _ _) => simp only [Act.put, List.setIfInBounds_toArray, List.set_cons_zero, List.set_cons_succ])
            refine wpAnyH_done (by kernel_rfl) ?_ _
            clear opa0 opa1 opa2 opa3 opa4 opa5 opa6 cxa cya
            have DD := Lib.hid Da.out
            generalize wa = w2 at DD ⊢
            obtain ⟨mp, s, hxt⟩ := hfo.out.at HPX.out
            have HXT := Lib.hid hxt
            have hbk := DD.out.blk (c := (ob, 110, [.int .i64 oc, .int .i64 oa, .int .i64 obb, .string os, .int .i64 v1, .int .i64 v2, .string v3])) (by simp)
            have o0 := hbk.cell 0 _ rfl
            have o1 := hbk.cell 1 _ rfl
            have o2 := hbk.cell 2 _ rfl
            have o3 := hbk.cell 3 _ rfl
            have o4 := hbk.cell 4 _ rfl
            have o5 := hbk.cell 5 _ rfl
            have o6 := hbk.cell 6 _ rfl
            clear hbk hxt
            have hkind : oc = 1 ∨ oc = 2 ∨ (oc ≠ 1 ∧ oc ≠ 2) := by omega
            rcases hkind with rfl | rfl | ⟨hk1, hk2⟩
            focus
              have HLK := Lib.hid ((DD.out.sub (M := [(bb, 207, [.pointer (some ⟨sb, 0, none⟩), .int .u64 ep]), (ob, 110, [.int .i64 1, .int .i64 oa, .int .i64 obb, .string os, .int .i64 v1, .int .i64 v2, .string v3]), (ab, 105, [.pointer (some ⟨t0, 0, none⟩), .pointer (some ⟨t1, 0, none⟩), .pointer (some ⟨t2, 0, none⟩), .pointer (some ⟨t3, 0, none⟩)])]) (fun c hc => by simp only [List.mem_cons, List.not_mem_nil, or_false] at hc ⊢; rcases hc with h | h | h <;> simp only [h, true_or, or_true])).link HXT.out (some ⟨py, 0, none⟩) HBB.out (fun c hc => by
                simp only [List.mem_cons, List.not_mem_nil, or_false] at hc
                have h1 := HOL.out
                have h2 := HAA.out
                rcases hc with h | h <;> (rw [h]; dsimp only; omega)) ⟨hep0, by have := HK1.out; omega⟩)
              go_upto_region 26 with (go_at_call 77; (with_reducible refine HLK.out.mono ?_); rintro e w3 ⟨rfl, hh⟩; have D3 := Lib.hid (((TL.sub hh (M := [(ob, 110, [.int .i64 1, .int .i64 oa, .int .i64 obb, .string os, .int .i64 v1, .int .i64 v2, .string v3]), (ab, 105, [.pointer (some ⟨t0, 0, none⟩), .pointer (some ⟨t1, 0, none⟩), .pointer (some ⟨t2, 0, none⟩), .pointer (some ⟨t3, 0, none⟩)]), (bb, 207, [.pointer (some ⟨sb, 0, none⟩), .int .u64 (ep + 1)])]) (fun c hc => by simp only [List.mem_cons, List.not_mem_nil, or_false] at hc ⊢; rcases hc with h | h | h <;> simp only [h, true_or, or_true]))).mono (Nat.le_succ k)); clear hh)
              have F3 := Lib.hid (hfo.out.put (s' := s) HXT.out (.pointer (some ⟨py, 0, none⟩)) (.inr ⟨py, List.mem_of_getElem? HPY.out, rfl⟩))
              obtain ⟨TT, tabs3, ep3, ocv, hE1, hE2, F3, D3⟩ : ∃ (TT : List Sh) (tabs3 : List T3) (ep3 : Int) (ocv : Value), 0 ≤ ep3 ∧ ep3 ≤ (k : Int) + 1 ∧ Hid (Four [t0, t1, t2, t3] tabs3) ∧ Hid (TL w w3 (fun _ => False) (some ⟨sb, 0, none⟩) dp 64 TT (k + 1) tabs3 [(ob, 110, [ocv, .int .i64 oa, .int .i64 obb, .string os, .int .i64 v1, .int .i64 v2, .string v3]), (ab, 105, [.pointer (some ⟨t0, 0, none⟩), .pointer (some ⟨t1, 0, none⟩), .pointer (some ⟨t2, 0, none⟩), .pointer (some ⟨t3, 0, none⟩)]), (bb, 207, [.pointer (some ⟨sb, 0, none⟩), .int .u64 ep3])]) := ⟨_, _, _, _, by omega, by omega, F3, D3⟩
              clear HLK o0 o1 o2 o3 o4 o5 o6
            rotate_left
            focus
              go_upto_region 25 with fail
              clear o0 o1 o2 o3 o4 o5 o6
              have BLb : Below w2.heap.size w2 ({ w2 with drawn := w2.drawn + 1 } : World) := ⟨rfl, rfl, rfl, Nat.le_refl _, fun _ _ => rfl⟩
              have Db := Lib.hid (DD.out.below BLb)
              refine wp_region_held (S := fun W : World => Blk W (ob) 110 [.int .i64 2, .int .i64 oa, .int .i64 obb, .string os, .int .i64 v1, .int .i64 v2, .string v3] ∧ True) (by kernel_rfl) ?_
              generalize ({ w2 with drawn := w2.drawn + 1 } : World) = wb at BLb Db ⊢
              have hSb : (fun W : World => Blk W (ob) 110 [.int .i64 2, .int .i64 oa, .int .i64 obb, .string os, .int .i64 v1, .int .i64 v2, .string v3] ∧ True) wb := ⟨Db.out.blk (c := (ob, 110, [.int .i64 2, .int .i64 oa, .int .i64 obb, .string os, .int .i64 v1, .int .i64 v2, .string v3])) (by simp), trivial⟩
              have oqb0 : ∀ W : World, (Blk W (ob) 110 [.int .i64 2, .int .i64 oa, .int .i64 obb, .string os, .int .i64 v1, .int .i64 v2, .string v3] ∧ True) → W.cell? ⟨ob, 0, none⟩ = some (.int .i64 2) := fun W hW => hW.1.cell 0 _ rfl
              have oqb1 : ∀ W : World, (Blk W (ob) 110 [.int .i64 2, .int .i64 oa, .int .i64 obb, .string os, .int .i64 v1, .int .i64 v2, .string v3] ∧ True) → W.cell? ⟨ob, 1, none⟩ = some (.int .i64 oa) := fun W hW => hW.1.cell 1 _ rfl
              have oqb2 : ∀ W : World, (Blk W (ob) 110 [.int .i64 2, .int .i64 oa, .int .i64 obb, .string os, .int .i64 v1, .int .i64 v2, .string v3] ∧ True) → W.cell? ⟨ob, 2, none⟩ = some (.int .i64 obb) := fun W hW => hW.1.cell 2 _ rfl
              have oqb3 : ∀ W : World, (Blk W (ob) 110 [.int .i64 2, .int .i64 oa, .int .i64 obb, .string os, .int .i64 v1, .int .i64 v2, .string v3] ∧ True) → W.cell? ⟨ob, 3, none⟩ = some (.string os) := fun W hW => hW.1.cell 3 _ rfl
              have oqb4 : ∀ W : World, (Blk W (ob) 110 [.int .i64 2, .int .i64 oa, .int .i64 obb, .string os, .int .i64 v1, .int .i64 v2, .string v3] ∧ True) → W.cell? ⟨ob, 4, none⟩ = some (.int .i64 v1) := fun W hW => hW.1.cell 4 _ rfl
              have oqb5 : ∀ W : World, (Blk W (ob) 110 [.int .i64 2, .int .i64 oa, .int .i64 obb, .string os, .int .i64 v1, .int .i64 v2, .string v3] ∧ True) → W.cell? ⟨ob, 5, none⟩ = some (.int .i64 v2) := fun W hW => hW.1.cell 5 _ rfl
              have oqb6 : ∀ W : World, (Blk W (ob) 110 [.int .i64 2, .int .i64 oa, .int .i64 obb, .string os, .int .i64 v1, .int .i64 v2, .string v3] ∧ True) → W.cell? ⟨ob, 6, none⟩ = some (.string v3) := fun W hW => hW.1.cell 6 _ rfl
              refine takeH 0 (oi := ⟨some 65, _, _, _, _, _⟩) (v := ?_) rfl (by kernel_rfl) (by kernel_rfl) (by kernel_rfl) (fun _ _ _ h => h) (Or.inl ⟨by rfl, ?_⟩) hSb ?_
              rotate_left
              · (intro W hW; (try dsimp only at hW); go_simp; try with_reducible rfl)
              try (conv in (Act.put _ _ _) => simp only [Act.put, List.setIfInBounds_toArray, List.set_cons_zero, List.set_cons_succ])
              refine takeH 1 (oi := ⟨some 66, _, _, _, _, _⟩) (v := ?_) rfl (by kernel_rfl) (by kernel_rfl) (by kernel_rfl) (fun _ _ _ h => h) (Or.inl ⟨by rfl, ?_⟩) hSb ?_
              rotate_left
              · (intro W hW; (try dsimp only at hW); go_simp; try with_reducible rfl)
              try (conv in (Act.put _ _ _) => simp only [Act.put, List.setIfInBounds_toArray, List.set_cons_zero, List.set_cons_succ])
              refine takeH 2 (oi := ⟨some 67, _, _, _, _, _⟩) (v := ?_) rfl (by kernel_rfl) (by kernel_rfl) (by kernel_rfl) (fun _ _ _ h => h) (Or.inl ⟨by rfl, ?_⟩) hSb ?_
              rotate_left
              · (intro W hW; (try dsimp only at hW); go_simp; try with_reducible rfl)
              try (conv in (Act.put _ _ _) => simp only [Act.put, List.setIfInBounds_toArray, List.set_cons_zero, List.set_cons_succ])
              refine takeH 4 (oi := ⟨some 69, _, _, _, _, _⟩) (v := ?_) rfl (by kernel_rfl) (by kernel_rfl) (by kernel_rfl) (fun _ _ _ h => h) (Or.inl ⟨by rfl, ?_⟩) hSb ?_
              rotate_left
              · (intro W hW; (try dsimp only at hW); go_simp; try with_reducible rfl)
              try (conv in (Act.put _ _ _) => simp only [Act.put, List.setIfInBounds_toArray, List.set_cons_zero, List.set_cons_succ])
              refine takeH 5 (oi := ⟨some 70, _, _, _, _, _⟩) (v := ?_) rfl (by kernel_rfl) (by kernel_rfl) (by kernel_rfl) (fun _ _ _ h => h) (Or.inl ⟨by rfl, ?_⟩) hSb ?_
              rotate_left
              · (intro W hW; (try dsimp only at hW); go_simp; try with_reducible rfl)
              try (conv in (Act.put _ _ _) => simp only [Act.put, List.setIfInBounds_toArray, List.set_cons_zero, List.set_cons_succ])
              refine one (i := 3) (by kernel_rfl) ?_
              refine wpOp_wanted rfl (by rfl) fun K hK => ?_
              go_simp
              with_reducible refine (HS.out os _).mono ?_
              rintro e wb63 ⟨rfl, hb⟩
              have Db63 := Lib.hid (Db.out.below hb)
              clear hb
              have Sb63 : (fun W : World => Blk W (ob) 110 [.int .i64 2, .int .i64 oa, .int .i64 obb, .string os, .int .i64 v1, .int .i64 v2, .string v3] ∧ True) wb63 := ⟨Db63.out.blk (c := (ob, 110, [.int .i64 2, .int .i64 oa, .int .i64 obb, .string os, .int .i64 v1, .int .i64 v2, .string v3])) (by simp), trivial⟩
              refine hK _ _ ⟨Sb63, ?_⟩
              clear hK K
              try (conv in (Act.put _ _ _) => simp only [Act.put, List.setIfInBounds_toArray, List.set_cons_zero, List.set_cons_succ])
              refine one (i := 6) (by kernel_rfl) ?_
              refine wpOp_wanted rfl (by rfl) fun K hK => ?_
              go_simp
              with_reducible refine (Db63.out.set HXT.out (strV os) ⟨v1, v2, v3⟩ HOS.out HK1.out.1).mono ?_
              rintro e wb64 ⟨rfl, hh, _⟩
              have Db64 := Lib.hid (hh)
              clear hh
              have Sb64 : (fun W : World => Blk W (ob) 110 [.int .i64 2, .int .i64 oa, .int .i64 obb, .string os, .int .i64 v1, .int .i64 v2, .string v3] ∧ True) wb64 := ⟨Db64.out.blk (c := (ob, 110, [.int .i64 2, .int .i64 oa, .int .i64 obb, .string os, .int .i64 v1, .int .i64 v2, .string v3])) (by simp), trivial⟩
              refine hK _ _ ⟨Sb64, ?_⟩
              clear hK K
              try (conv in (Act.put _ _ _) => simp only [Act.put, List.setIfInBounds_toArray, List.set_cons_zero, List.set_cons_succ])
              refine wpAnyH_done (by kernel_rfl) ?_ _
              clear oqb0 oqb1 oqb2 oqb3 oqb4 oqb5 oqb6
              have D3 := Lib.hid Db64.out
              have F3 := Lib.hid (hfo.out.put (s' := (tsetM dp 64 T s (strV os) ⟨v1, v2, v3⟩).s) HXT.out mp (hfo.out.mt HXT.out))
              generalize wb64 = w3 at D3 ⊢
              obtain ⟨TT, tabs3, ep3, ocv, hE1, hE2, F3, D3⟩ : ∃ (TT : List Sh) (tabs3 : List T3) (ep3 : Int) (ocv : Value), 0 ≤ ep3 ∧ ep3 ≤ (k : Int) + 1 ∧ Hid (Four [t0, t1, t2, t3] tabs3) ∧ Hid (TL w w3 (fun _ => False) (some ⟨sb, 0, none⟩) dp 64 TT (k + 1) tabs3 [(ob, 110, [ocv, .int .i64 oa, .int .i64 obb, .string os, .int .i64 v1, .int .i64 v2, .string v3]), (ab, 105, [.pointer (some ⟨t0, 0, none⟩), .pointer (some ⟨t1, 0, none⟩), .pointer (some ⟨t2, 0, none⟩), .pointer (some ⟨t3, 0, none⟩)]), (bb, 207, [.pointer (some ⟨sb, 0, none⟩), .int .u64 ep3])]) := ⟨_, _, _, _, by omega, by omega, F3, D3⟩
              go_upto_region 26 with fail
            rotate_left
            focus
              have k1 : (oc == 1) = false := by simp only [beq_eq_false_iff_ne, ne_eq]; omega
              have k2 : (oc == 2) = false := by simp only [beq_eq_false_iff_ne, ne_eq]; omega
              go_upto_region 26 with fail
              clear o0 o1 o2 o3 o4 o5 o6 k1 k2 hk1 hk2
              generalize w2 = w3 at DD ⊢
              have D3 := Lib.hid (DD.out.mono (Nat.le_succ k))
              have F3 := hfo
              obtain ⟨TT, tabs3, ep3, ocv, hE1, hE2, F3, D3⟩ : ∃ (TT : List Sh) (tabs3 : List T3) (ep3 : Int) (ocv : Value), 0 ≤ ep3 ∧ ep3 ≤ (k : Int) + 1 ∧ Hid (Four [t0, t1, t2, t3] tabs3) ∧ Hid (TL w w3 (fun _ => False) (some ⟨sb, 0, none⟩) dp 64 TT (k + 1) tabs3 [(ob, 110, [ocv, .int .i64 oa, .int .i64 obb, .string os, .int .i64 v1, .int .i64 v2, .string v3]), (ab, 105, [.pointer (some ⟨t0, 0, none⟩), .pointer (some ⟨t1, 0, none⟩), .pointer (some ⟨t2, 0, none⟩), .pointer (some ⟨t3, 0, none⟩)]), (bb, 207, [.pointer (some ⟨sb, 0, none⟩), .int .u64 ep3])]) := ⟨_, _, _, _, by omega, by omega, F3, D3⟩
            all_goals
              obtain ⟨mp3, s3, hxt3⟩ := F3.out.at HPX.out
              have HX3 := Lib.hid hxt3
              obtain ⟨o, ho⟩ := F3.out.ref hxt3
              have HRF : Hid (TabRef tabs3 (.pointer (some ⟨px, 0, none⟩)) o) := Lib.hid (.inr ⟨x, px, mp3, s3, hxt3, rfl, ho⟩)
              have HN3 : Hid (TabRef tabs3 (.pointer none) none) := Lib.hid (.inl ⟨rfl, rfl⟩)
              clear hxt3
              obtain ⟨⟨g1, g2, g3⟩, hg⟩ : ∃ g, g = findV o os := ⟨_, rfl⟩
              have HG := Lib.hid hg
              have HEI : Hid (eitherV o o os = ⟨g1, g2, g3⟩ ∧ eitherV none o os = ⟨g1, g2, g3⟩) := Lib.hid (by
                constructor
                · unfold eitherV; rw [← hg, ite_self]
                · unfold eitherV; rw [← hg]; rfl)
              clear hg
              go_upto_region 27 with fail
              have D4 := Lib.hid (D3.out.alloc [.int .i64 0, .int .i64 0, .string Val.e] 57)
              have HWL := Lib.hid (show bb < w3.heap.size ∧ ab < w3.heap.size ∧ ob < w3.heap.size ∧ w.heap.size ≤ w3.heap.size from ⟨(D3.out.blk (c := (bb, 207, [.pointer (some ⟨sb, 0, none⟩), .int .u64 ep3])) (by simp)).lt, (D3.out.blk (c := (ab, 105, [.pointer (some ⟨t0, 0, none⟩), .pointer (some ⟨t1, 0, none⟩), .pointer (some ⟨t2, 0, none⟩), .pointer (some ⟨t3, 0, none⟩)])) (by simp)).lt, (D3.out.blk (c := (ob, 110, [ocv, .int .i64 oa, .int .i64 obb, .string os, .int .i64 v1, .int .i64 v2, .string v3])) (by simp)).lt, D3.out.bel.size⟩)
              obtain ⟨wb, hwb⟩ : ∃ b, b = w3.heap.size := ⟨_, rfl⟩
              obtain ⟨w4, hw4⟩ : ∃ W, W = w3.alloc (.cells #[.int .i64 0, .int .i64 0, .string Val.e] 57) := ⟨_, rfl⟩
              have D4 : Hid (TL w w4 (fun _ => False) (some ⟨sb, 0, none⟩) dp 64 TT (k + 1) tabs3 [(wb, 57, [.int .i64 0, .int .i64 0, .string Val.e]), (ob, 110, [ocv, .int .i64 oa, .int .i64 obb, .string os, .int .i64 v1, .int .i64 v2, .string v3]), (ab, 105, [.pointer (some ⟨t0, 0, none⟩), .pointer (some ⟨t1, 0, none⟩), .pointer (some ⟨t2, 0, none⟩), .pointer (some ⟨t3, 0, none⟩)]), (bb, 207, [.pointer (some ⟨sb, 0, none⟩), .int .u64 ep3])]) := Lib.hid (by rw [hw4, hwb]; exact D4.out)
              rw [← hwb] at HWL
              rw [← hwb, ← hw4]
              clear hwb hw4 D3
              have HME := Lib.hid (D4.out.meta_ HX3.out)
              rcases ho with ⟨rfl, rfl⟩ | ⟨j, tbj, mpj, sj, hj, rfl, rfl⟩
              focus
                go_upto_region 29 with (go_at_call 84; (with_reducible refine HME.out.mono ?_); rintro e w5 ⟨rfl, rfl⟩)
                have hn : (⟨g1, g2, g3⟩ : Val) = Val.nil := HG.out
                injection hn with n1 n2 n3
                generalize w4 = w5 at D4 ⊢
                have D5 : Hid (TL w w5 (fun _ => False) (some ⟨sb, 0, none⟩) dp 64 TT (k + 1) tabs3 [(wb, 57, [.int .i64 g1, .int .i64 g2, .string g3]), (ob, 110, [ocv, .int .i64 oa, .int .i64 obb, .string os, .int .i64 v1, .int .i64 v2, .string v3]), (ab, 105, [.pointer (some ⟨t0, 0, none⟩), .pointer (some ⟨t1, 0, none⟩), .pointer (some ⟨t2, 0, none⟩), .pointer (some ⟨t3, 0, none⟩)]), (bb, 207, [.pointer (some ⟨sb, 0, none⟩), .int .u64 ep3])]) := Lib.hid (by rw [n1, n2, n3]; exact D4.out)
                clear n1 n2 n3 HME D4
              rotate_left
              focus
                have HJ := Lib.hid hj
                have HMW := Lib.hid (fun (W : World) (h : TL w W (fun _ => False) (some ⟨sb, 0, none⟩) dp 64 TT (k + 1) tabs3 [(wb, 57, [.int .i64 0, .int .i64 0, .string Val.e]), (ob, 110, [ocv, .int .i64 oa, .int .i64 obb, .string os, .int .i64 v1, .int .i64 v2, .string v3]), (ab, 105, [.pointer (some ⟨t0, 0, none⟩), .pointer (some ⟨t1, 0, none⟩), .pointer (some ⟨t2, 0, none⟩), .pointer (some ⟨t3, 0, none⟩)]), (bb, 207, [.pointer (some ⟨sb, 0, none⟩), .int .u64 ep3])]) => show Calls Try.prog 84 #[.pointer (some ⟨px, 0, none⟩)] W fun e w' => e = .returned (.pointer (some ⟨tbj, 0, none⟩)) ∧ Below W.heap.size W w' from (h.meta_ HX3.out).mono (fun e w' h => ⟨h.1, by rw [← h.2]; exact Below.refl _ _⟩))
                have HGT := Lib.hid (fun (W : World) (h : TL w W (fun _ => False) (some ⟨sb, 0, none⟩) dp 64 TT (k + 1) tabs3 [(wb, 57, [.int .i64 0, .int .i64 0, .string Val.e]), (ob, 110, [ocv, .int .i64 oa, .int .i64 obb, .string os, .int .i64 v1, .int .i64 v2, .string v3]), (ab, 105, [.pointer (some ⟨t0, 0, none⟩), .pointer (some ⟨t1, 0, none⟩), .pointer (some ⟨t2, 0, none⟩), .pointer (some ⟨t3, 0, none⟩)]), (bb, 207, [.pointer (some ⟨sb, 0, none⟩), .int .u64 ep3])]) => h.get hj (strV os) HOS.out HK1.out.2)
                have hgg : tgetM sj (strV os) = ⟨g1, g2, g3⟩ := HG.out.symm
                rw [hgg] at HGT
                clear hj hgg
                go_upto_region 28 with (go_at_call 84; (with_reducible refine HME.out.mono ?_); rintro e w5 ⟨rfl, rfl⟩)
                clear HME
                have BLc : Below w4.heap.size w4 ({ w4 with drawn := w4.drawn + 1 } : World) := ⟨rfl, rfl, rfl, Nat.le_refl _, fun _ _ => rfl⟩
                have Dc := Lib.hid (D4.out.below BLc)
                refine wp_region_held (S := fun W : World => Blk W (ob) 110 [ocv, .int .i64 oa, .int .i64 obb, .string os, .int .i64 v1, .int .i64 v2, .string v3] ∧ True) (by kernel_rfl) ?_
                generalize ({ w4 with drawn := w4.drawn + 1 } : World) = wc at BLc Dc ⊢
                have hSc : (fun W : World => Blk W (ob) 110 [ocv, .int .i64 oa, .int .i64 obb, .string os, .int .i64 v1, .int .i64 v2, .string v3] ∧ True) wc := ⟨Dc.out.blk (c := (ob, 110, [ocv, .int .i64 oa, .int .i64 obb, .string os, .int .i64 v1, .int .i64 v2, .string v3])) (by simp), trivial⟩
                have ozc0 : ∀ W : World, (Blk W (ob) 110 [ocv, .int .i64 oa, .int .i64 obb, .string os, .int .i64 v1, .int .i64 v2, .string v3] ∧ True) → W.cell? ⟨ob, 0, none⟩ = some (ocv) := fun W hW => hW.1.cell 0 _ rfl
                have ozc1 : ∀ W : World, (Blk W (ob) 110 [ocv, .int .i64 oa, .int .i64 obb, .string os, .int .i64 v1, .int .i64 v2, .string v3] ∧ True) → W.cell? ⟨ob, 1, none⟩ = some (.int .i64 oa) := fun W hW => hW.1.cell 1 _ rfl
                have ozc2 : ∀ W : World, (Blk W (ob) 110 [ocv, .int .i64 oa, .int .i64 obb, .string os, .int .i64 v1, .int .i64 v2, .string v3] ∧ True) → W.cell? ⟨ob, 2, none⟩ = some (.int .i64 obb) := fun W hW => hW.1.cell 2 _ rfl
                have ozc3 : ∀ W : World, (Blk W (ob) 110 [ocv, .int .i64 oa, .int .i64 obb, .string os, .int .i64 v1, .int .i64 v2, .string v3] ∧ True) → W.cell? ⟨ob, 3, none⟩ = some (.string os) := fun W hW => hW.1.cell 3 _ rfl
                have ozc4 : ∀ W : World, (Blk W (ob) 110 [ocv, .int .i64 oa, .int .i64 obb, .string os, .int .i64 v1, .int .i64 v2, .string v3] ∧ True) → W.cell? ⟨ob, 4, none⟩ = some (.int .i64 v1) := fun W hW => hW.1.cell 4 _ rfl
                have ozc5 : ∀ W : World, (Blk W (ob) 110 [ocv, .int .i64 oa, .int .i64 obb, .string os, .int .i64 v1, .int .i64 v2, .string v3] ∧ True) → W.cell? ⟨ob, 5, none⟩ = some (.int .i64 v2) := fun W hW => hW.1.cell 5 _ rfl
                have ozc6 : ∀ W : World, (Blk W (ob) 110 [ocv, .int .i64 oa, .int .i64 obb, .string os, .int .i64 v1, .int .i64 v2, .string v3] ∧ True) → W.cell? ⟨ob, 6, none⟩ = some (.string v3) := fun W hW => hW.1.cell 6 _ rfl
                refine takeH 0 (oi := ⟨some 76, _, _, _, _, _⟩) (v := ?_) rfl (by kernel_rfl) (by kernel_rfl) (by kernel_rfl) (fun _ _ _ h => h) (Or.inl ⟨by rfl, ?_⟩) hSc ?_
                rotate_left
                · (intro W hW; (try dsimp only at hW); go_simp; try with_reducible rfl)
                try (conv in (Act.put _ _ _) => simp only [Act.put, List.setIfInBounds_toArray, List.set_cons_zero, List.set_cons_succ])
                refine takeH 2 (oi := ⟨some 78, _, _, _, _, _⟩) (v := ?_) rfl (by kernel_rfl) (by kernel_rfl) (by kernel_rfl) (fun _ _ _ h => h) (Or.inl ⟨by rfl, ?_⟩) hSc ?_
                rotate_left
                · (intro W hW; (try dsimp only at hW); go_simp; try with_reducible rfl)
                try (conv in (Act.put _ _ _) => simp only [Act.put, List.setIfInBounds_toArray, List.set_cons_zero, List.set_cons_succ])
                refine takeH 3 (oi := ⟨some 79, _, _, _, _, _⟩) (v := ?_) rfl (by kernel_rfl) (by kernel_rfl) (by kernel_rfl) (fun _ _ _ h => h) (Or.inl ⟨by rfl, ?_⟩) hSc ?_
                rotate_left
                · (intro W hW; (try dsimp only at hW); go_simp; try with_reducible rfl)
                try (conv in (Act.put _ _ _) => simp only [Act.put, List.setIfInBounds_toArray, List.set_cons_zero, List.set_cons_succ])
                refine one (i := 1) (by kernel_rfl) ?_
                refine wpOp_wanted rfl (by rfl) fun K hK => ?_
                go_simp
                with_reducible refine (HMW.out _ Dc.out).mono ?_
                rintro e wc68 ⟨rfl, hb⟩
                have Dc68 := Lib.hid (Dc.out.below hb)
                clear hb
                have Sc68 : (fun W : World => Blk W (ob) 110 [ocv, .int .i64 oa, .int .i64 obb, .string os, .int .i64 v1, .int .i64 v2, .string v3] ∧ True) wc68 := ⟨Dc68.out.blk (c := (ob, 110, [ocv, .int .i64 oa, .int .i64 obb, .string os, .int .i64 v1, .int .i64 v2, .string v3])) (by simp), trivial⟩
                refine hK _ _ ⟨Sc68, ?_⟩
                clear hK K
                try (conv in (Act.put _ _ _) => simp only [Act.put, List.setIfInBounds_toArray, List.set_cons_zero, List.set_cons_succ])
                refine one (i := 4) (by kernel_rfl) ?_
                refine wpOp_wanted rfl (by rfl) fun K hK => ?_
                go_simp
                with_reducible refine (HS.out os _).mono ?_
                rintro e wc69 ⟨rfl, hb⟩
                have Dc69 := Lib.hid (Dc68.out.below hb)
                clear hb
                have Sc69 : (fun W : World => Blk W (ob) 110 [ocv, .int .i64 oa, .int .i64 obb, .string os, .int .i64 v1, .int .i64 v2, .string v3] ∧ True) wc69 := ⟨Dc69.out.blk (c := (ob, 110, [ocv, .int .i64 oa, .int .i64 obb, .string os, .int .i64 v1, .int .i64 v2, .string v3])) (by simp), trivial⟩
                refine hK _ _ ⟨Sc69, ?_⟩
                clear hK K
                try (conv in (Act.put _ _ _) => simp only [Act.put, List.setIfInBounds_toArray, List.set_cons_zero, List.set_cons_succ])
                refine one (i := 5) (by kernel_rfl) ?_
                refine wpOp_wanted rfl (by rfl) fun K hK => ?_
                go_simp
                with_reducible refine (HGT.out _ Dc69.out).mono ?_
                rintro e wc70 ⟨rfl, hb⟩
                have Dc70 := Lib.hid (Dc69.out.below hb)
                clear hb
                have Sc70 : (fun W : World => Blk W (ob) 110 [ocv, .int .i64 oa, .int .i64 obb, .string os, .int .i64 v1, .int .i64 v2, .string v3] ∧ True) wc70 := ⟨Dc70.out.blk (c := (ob, 110, [ocv, .int .i64 oa, .int .i64 obb, .string os, .int .i64 v1, .int .i64 v2, .string v3])) (by simp), trivial⟩
                refine hK _ _ ⟨Sc70, ?_⟩
                clear hK K
                try (conv in (Act.put _ _ _) => simp only [Act.put, List.setIfInBounds_toArray, List.set_cons_zero, List.set_cons_succ])
                refine one (i := 6) (by kernel_rfl) ?_
                have hbk := Dc70.out.blk List.mem_cons_self
                have s0 := hbk.cell 0 _ rfl
                have s1 := hbk.cell 1 _ rfl
                have s2 := hbk.cell 2 _ rfl
                have z0 := hbk.frozen 0
                have z1 := hbk.frozen 1
                have z2 := hbk.frozen 2
                clear hbk
                refine wpOp_wanted rfl (by rfl) fun K hK => ?_
                go_simp
                clear s0 s1 s2 z0 z1 z2
                obtain ⟨wc71, hwc71⟩ : ∃ W, W = (((wc70.setCell ⟨wb, 0, none⟩ (.int .i64 g1)).setCell ⟨wb, 1, none⟩ (.int .i64 g2)).setCell ⟨wb, 2, none⟩ (.string g3)) := ⟨_, rfl⟩
                have Dc71 : Hid (TL w wc71 (fun _ => False) (some ⟨sb, 0, none⟩) dp 64 TT (k + 1) tabs3 [(wb, 57, [.int .i64 g1, .int .i64 g2, .string g3]), (ob, 110, [ocv, .int .i64 oa, .int .i64 obb, .string os, .int .i64 v1, .int .i64 v2, .string v3]), (ab, 105, [.pointer (some ⟨t0, 0, none⟩), .pointer (some ⟨t1, 0, none⟩), .pointer (some ⟨t2, 0, none⟩), .pointer (some ⟨t3, 0, none⟩)]), (bb, 207, [.pointer (some ⟨sb, 0, none⟩), .int .u64 ep3])]) := Lib.hid (by rw [hwc71]; exact (((Dc70.out.stored HWL.out.2.2.2 (fun c hc => by simp only [List.mem_cons, List.not_mem_nil, or_false] at hc; have h1 := HWL.out; rcases hc with h | h | h <;> (rw [h]; dsimp only; omega)) 0 (.int .i64 g1)).stored HWL.out.2.2.2 (fun c hc => by simp only [List.mem_cons, List.not_mem_nil, or_false] at hc; have h1 := HWL.out; rcases hc with h | h | h <;> (rw [h]; dsimp only; omega)) 1 (.int .i64 g2)).stored HWL.out.2.2.2 (fun c hc => by simp only [List.mem_cons, List.not_mem_nil, or_false] at hc; have h1 := HWL.out; rcases hc with h | h | h <;> (rw [h]; dsimp only; omega)) 2 (.string g3)))
                rw [← hwc71]
                clear hwc71
                have Sc71 : (fun W : World => Blk W (ob) 110 [ocv, .int .i64 oa, .int .i64 obb, .string os, .int .i64 v1, .int .i64 v2, .string v3] ∧ True) wc71 := ⟨Dc71.out.blk (c := (ob, 110, [ocv, .int .i64 oa, .int .i64 obb, .string os, .int .i64 v1, .int .i64 v2, .string v3])) (by simp), trivial⟩
                refine hK _ _ ⟨Sc71, ?_⟩
                clear hK K
                try (conv in (Act.put _ _ _) => simp only [Act.put, List.setIfInBounds_toArray, List.set_cons_zero, List.set_cons_succ])
                refine wpAnyH_done (by kernel_rfl) ?_ _
                clear ozc0 ozc1 ozc2 ozc3 ozc4 ozc5 ozc6
                have D5 := Lib.hid Dc71.out
                generalize wc71 = w5 at D5 ⊢
                go_upto_region 29 with fail
                clear HMW HGT HJ D4
              all_goals
                have HF0 := Lib.hid (fun (W : World) (h : TL w W (fun _ => False) (some ⟨sb, 0, none⟩) dp 64 TT (k + 1) tabs3 [(wb, 57, [.int .i64 g1, .int .i64 g2, .string g3]), (ob, 110, [ocv, .int .i64 oa, .int .i64 obb, .string os, .int .i64 v1, .int .i64 v2, .string v3]), (ab, 105, [.pointer (some ⟨t0, 0, none⟩), .pointer (some ⟨t1, 0, none⟩), .pointer (some ⟨t2, 0, none⟩), .pointer (some ⟨t3, 0, none⟩)]), (bb, 207, [.pointer (some ⟨sb, 0, none⟩), .int .u64 ep3])]) => h.find HRF.out (.inr ⟨bb, ep3, rfl, by simp⟩) os HOS.out HK1.out.2)
                have HF1 := Lib.hid (fun (W : World) (h : TL w W (fun _ => False) (some ⟨sb, 0, none⟩) dp 64 TT (k + 1) tabs3 [(wb, 57, [.int .i64 g1, .int .i64 g2, .string g3]), (ob, 110, [ocv, .int .i64 oa, .int .i64 obb, .string os, .int .i64 v1, .int .i64 v2, .string v3]), (ab, 105, [.pointer (some ⟨t0, 0, none⟩), .pointer (some ⟨t1, 0, none⟩), .pointer (some ⟨t2, 0, none⟩), .pointer (some ⟨t3, 0, none⟩)]), (bb, 207, [.pointer (some ⟨sb, 0, none⟩), .int .u64 ep3])]) => h.find HRF.out (.inl rfl) os HOS.out HK1.out.2)
                have HF2 := Lib.hid (fun (W : World) (h : TL w W (fun _ => False) (some ⟨sb, 0, none⟩) dp 64 TT (k + 1) tabs3 [(wb, 57, [.int .i64 g1, .int .i64 g2, .string g3]), (ob, 110, [ocv, .int .i64 oa, .int .i64 obb, .string os, .int .i64 v1, .int .i64 v2, .string v3]), (ab, 105, [.pointer (some ⟨t0, 0, none⟩), .pointer (some ⟨t1, 0, none⟩), .pointer (some ⟨t2, 0, none⟩), .pointer (some ⟨t3, 0, none⟩)]), (bb, 207, [.pointer (some ⟨sb, 0, none⟩), .int .u64 ep3])]) => h.find1 HRF.out os HOS.out HK1.out.2)
                have HF3 := Lib.hid (fun (W : World) (h : TL w W (fun _ => False) (some ⟨sb, 0, none⟩) dp 64 TT (k + 1) tabs3 [(wb, 57, [.int .i64 g1, .int .i64 g2, .string g3]), (ob, 110, [ocv, .int .i64 oa, .int .i64 obb, .string os, .int .i64 v1, .int .i64 v2, .string v3]), (ab, 105, [.pointer (some ⟨t0, 0, none⟩), .pointer (some ⟨t1, 0, none⟩), .pointer (some ⟨t2, 0, none⟩), .pointer (some ⟨t3, 0, none⟩)]), (bb, 207, [.pointer (some ⟨sb, 0, none⟩), .int .u64 ep3])]) => h.either HRF.out HRF.out (.inr ⟨bb, ep3, rfl, by simp⟩) os HOS.out HK1.out.2)
                have HF4 := Lib.hid (fun (W : World) (h : TL w W (fun _ => False) (some ⟨sb, 0, none⟩) dp 64 TT (k + 1) tabs3 [(wb, 57, [.int .i64 g1, .int .i64 g2, .string g3]), (ob, 110, [ocv, .int .i64 oa, .int .i64 obb, .string os, .int .i64 v1, .int .i64 v2, .string v3]), (ab, 105, [.pointer (some ⟨t0, 0, none⟩), .pointer (some ⟨t1, 0, none⟩), .pointer (some ⟨t2, 0, none⟩), .pointer (some ⟨t3, 0, none⟩)]), (bb, 207, [.pointer (some ⟨sb, 0, none⟩), .int .u64 ep3])]) => h.either HN3.out HRF.out (.inr ⟨bb, ep3, rfl, by simp⟩) os HOS.out HK1.out.2)
                rw [← HG.out] at HF0 HF1 HF2
                rw [HEI.out.1] at HF3
                rw [HEI.out.2] at HF4
                clear HEI HN3 HRF HG HI HAL HGR HNM HNT HNF HL HS HC HB2 HBB HAA HBA HX3 HWL HK1 HOS HOB HOL HCX HPX HPY HXT hfo
                refine mb_reg29 HF0 HF1 HF2 HF3 HF4 D5 (fun _ _ _ _ _ h => h) ?_
                intro w6 D6
                intros
                have HREL : Hid (∃ (k' : Nat) (T : List Sh) (tabs : List T3) (ep : Int), k' ≤ n1 ∧ Value.int .i64 ((k : Int) + 1) = .int .i64 k' ∧ 0 ≤ ep ∧ ep ≤ k' ∧ Hid (Four [t0, t1, t2, t3] tabs) ∧ Hid (TL w w6 (fun _ => False) (some ⟨sb, 0, none⟩) dp 64 T k' tabs [(ab, 105, [.pointer (some ⟨t0, 0, none⟩), .pointer (some ⟨t1, 0, none⟩), .pointer (some ⟨t2, 0, none⟩), .pointer (some ⟨t3, 0, none⟩)]), (bb, 207, [.pointer (some ⟨sb, 0, none⟩), .int .u64 ep])])) := Lib.hid ⟨k + 1, TT, tabs3, ep3, by omega, by go_num, hE1, by omega, F3, Lib.hid (TL.sub D6.out (fun c hc => List.mem_cons_of_mem _ (List.mem_cons_of_mem _ hc)))⟩
                clear D6 D5 HF0 HF1 HF2 HF3 HF4
                go_wp2
                go_roundw
                case rel => first | exact HREL | ((repeat apply Exists.intro); exact ⟨HREL, rfl⟩)
                case measure => simp [intOf]; omega
          · obtain rfl : k = n1 := by omega
            have HFN := Lib.hid (hre.out.find (p := .pointer none) (o := none) (.inl ⟨rfl, rfl⟩) (.inr ⟨bb, ep, rfl, by simp⟩) ⟨#[95, 95, 105, 110, 100, 101, 120]⟩ (by decide) (by have := HN3.out; omega))
            have HFN : Hid (Calls Try.prog 80 #[.pointer (some ⟨bb, 0, none⟩), .pointer none, .string ⟨#[95, 95, 105, 110, 100, 101, 120]⟩] wr fun e w' => e = .returned (.agg #[.int .i64 0, .int .i64 0, .string Val.e]) ∧ Below wr.heap.size wr w') := HFN
            have HEN := Lib.hid (fun (W : World) => epoch_none W)
            have hfl : ∀ W, (Instr.field 57 (.agg #[.int .i64 0, .int .i64 0, .string ⟨#[]⟩]) 0).run Try.prog W = .ok (.int .i64 0) W := fun W => by kernel_rfl
            go_wp2_with (first
              | (go_at_call 80; (with_reducible refine HFN.out.mono ?_); rintro e w8 ⟨rfl, hb⟩; have D8 := Lib.hid (hre.out.below hb); clear hb)
              | (go_at_call 83; (with_reducible refine (HEN.out _).mono ?_); rintro e w9 ⟨rfl, rfl⟩))
            go_ret
            exact ⟨rfl, D8.out.bel⟩
end Go.Proofs.Ytmjfmfelbmbniaa
